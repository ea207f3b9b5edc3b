import Derived.Test.YtfkeflcdadlmdaaGreatDoorSsk
import Derived.Test.YtfkeflcdadlmdaaGreatDoorX1
import Derived.Test.YtfkeflcdadlmdaaGreatDoorR1
namespace Go.Proofs.YtfkeflcdadlmdaaGreatDoor
open Go Go.RowKit

theorem zr48 : ∀ g, RelCells g [.bool false, .str [], .int .i64 0] (Value.cells (Go.Value.agg #[Go.Value.bool false, Go.Value.string { data := #[] }, Go.Value.int Go.IntKind.i64 0])) := fun g => RelL.cells (.cons (.bool _) (.cons ((.str [] (Nat.zero_le _))) (.cons (.int _ _) .nil)))
theorem pl48 (fs : Array Field) (hfs : Tryz.prog.underlying 48 = some (.struct fs)) : ∀ (i : Nat) f p, fs[i]? = some f → [(0, 1), (1, 1), (2, 1)][i]? = some p → ∀ w, (sizeOf f.type).run Tryz.prog w = .ok p.2 w := by
 have e := (Option.some.inj (hfs.symm.trans Tryz.underlying48))
 cases e
 intro i f p hf hp w
 match i with
 | 0 => cases hf; cases hp; exact Tryz.sizeOf4 w
 | 1 => cases hf; cases hp; exact Tryz.sizeOf9 w
 | 2 => cases hf; cases hp; exact Tryz.sizeOf3 w
 | i + 3 => simp at hp

theorem bfB {s : List UInt8} {p : Nat} (h : p < s.length) (ha : (s.getD p 0).toNat < 128) : Utf8.decode ⟨s.toArray⟩ p = ((s.getD p 0).toNat, 1) := by
 have hb : (⟨s.toArray⟩ : ByteArray).get! (p + 0) = s.getD p 0 := by
  rw [Nat.add_zero, List.getD_eq_getElem?_getD, List.getElem?_eq_getElem h]
  show s.toArray[p]! = _
  simp [h]
 unfold Utf8.decode
 simp only [hb]
 rw [if_pos ha]
theorem Digs.at {s : List UInt8} (hd : Digs s) {p : Nat} (h : p < s.length) : 48 ≤ (s.getD p 0).toNat ∧ (s.getD p 0).toNat ≤ 57 := by
 rw [List.getD_eq_getElem?_getD, List.getElem?_eq_getElem h]
 exact hd _ (List.getElem_mem h)
def digC (b : UInt8) : Bool := decide ((48 : Int) ≤ ((b.toNat : Nat) : Int)) && decide (((b.toNat : Nat) : Int) ≤ 57)
theorem bfA {ds : List UInt8} {i : Nat} (hi : i < ds.length) (h : anW (ds.take i) = true) : anW (ds.take (i + 1)) = digC (ds.getD i 0) := by
 unfold anW at *
 rw [← List.take_append_getElem hi, List.all_append, h, List.getD_eq_getElem?_getD, List.getElem?_eq_getElem hi]
 simp only [List.all_cons, List.all_nil, Bool.and_true, Bool.true_and, digC, Option.getD_some]
 congr 1
 ·exact decide_eq_decide.2 (by omega)
 ·exact decide_eq_decide.2 (by omega)
theorem arZ {ds : List UInt8} {i : Nat} (h : anW ds = true) : anW (ds.take i) = true := by
 unfold anW at *
 rw [List.all_eq_true] at h ⊢
 exact fun x hx => h x (List.mem_of_mem_take hx)
theorem bbT {ds : List UInt8} (h : 0 < ds.length) : Lib.hasSuffix ds [48] = decide (ds.getD (ds.length - 1) 0 = 48) := by
 unfold Lib.hasSuffix
 have e : ds = ds.take (ds.length - 1) ++ [ds.getD (ds.length - 1) 0] := by
  have hl : ds.length - 1 < ds.length := by omega
  rw [List.getD_eq_getElem?_getD, List.getElem?_eq_getElem hl, Option.getD_some, List.take_append_getElem hl, List.take_of_length_le (by omega)]
 by_cases hq : ds.getD (ds.length - 1) 0 = 48
 ·rw [decide_eq_true hq]
  rw [hq] at e
  rw [List.isSuffixOf_iff_suffix]
  exact ⟨_, e.symm⟩
 ·rw [decide_eq_false hq]
  cases hs : [48].isSuffixOf ds with
  | false => rfl
  | true =>
   rw [List.isSuffixOf_iff_suffix] at hs
   obtain ⟨u, hu⟩ := hs
   exfalso; apply hq
   rw [← hu]; simp
theorem auS {b : UInt8} (k : Nat) (hk : k < 256) : decide (((b.toNat : Nat) : Int) = (k : Int)) = decide (b = UInt8.ofNat k) := by
 apply decide_eq_decide.2
 constructor
 ·intro h; apply UInt8.toNat_inj.1; rw [UInt8.toNat_ofNat']; omega
 ·intro h; rw [h, UInt8.toNat_ofNat']; omega
def akR (ds : List UInt8) (e : Int) : Bool := decide ((ds.length : Int) ≤ 1100) && decide (-100000 ≤ e) && decide (e ≤ 100000) && decide (((ds.getD 0 0).toNat : Int) ≠ 48) && !decide (((ds.getD (ds.length - 1) 0).toNat : Int) = 48)
theorem akQ {ds : List UInt8} {e : Int} (h : ds ≠ []) : qG ds e = (akR ds e && anW ds) := by
 unfold qG akR
 rw [if_neg h]
 have e1 := auS (b := ds.getD 0 0) 48 (by decide)
 have e2 := auS (b := ds.getD (ds.length - 1) 0) 48 (by decide)
 have e3 : decide ((ds.length : Int) ≤ 1100) = decide (ds.length ≤ 1100) := decide_eq_decide.2 (by omega)
 have e4 : decide (((ds.getD 0 0).toNat : Int) ≠ 48) = !decide (ds.getD 0 0 = UInt8.ofNat 48) := by rw [← e1]; exact decide_not
 rw [e3, e4, show decide (((ds.getD (ds.length - 1) 0).toNat : Int) = 48) = decide (ds.getD (ds.length - 1) 0 = UInt8.ofNat 48) from e2]
 show _ = (_ && _ && _ && !decide (ds.getD 0 0 = 48) && !decide (ds.getD (ds.length - 1) 0 = 48) && anW ds)
 generalize decide (ds.length ≤ 1100) = a1
 generalize decide (-100000 ≤ e) = a2
 generalize decide (e ≤ 100000) = a3
 generalize anW ds = a4
 generalize decide (ds.getD 0 0 = 48) = a5
 generalize decide (ds.getD (ds.length - 1) 0 = 48) = a6
 cases a1 <;> cases a2 <;> cases a3 <;> cases a4 <;> cases a5 <;> cases a6 <;> rfl

def bdB (s : List UInt8) (b : Nat) (H : Heap) : Nat → Env → Heap → Prop := fun k env H1 => ∃ p : Nat, p ≤ s.length ∧ env = [(6, .ptr (some ⟨b, 0, none⟩))] ∧ H1 = H.set b (.raw (.stringIter ⟨s.toArray⟩ p)) ∧ k = s.length - p

set_option maxRecDepth 100000 in
theorem alE (s : List UInt8) (hd : Digs s) (H : Heap) : ACall Tryz.prog 67 [.str s] H (fun y H' => y = .bool true ∧ H' = H) := by
 refine ACall.of_body Tryz.func67 rfl Tryz.ntmps67 Tryz.results67 rfl ?_
 refine .sr (.p rfl (zB zK) (.ng (.seq (.sr (.mv rfl rfl (.s rfl (axT Tryz.underlying9 (tm rfl)) ?_))))))
 rintro _ _ ⟨b6, rfl, hb6, hH⟩
 obtain rfl := hH.symm
 refine .ng (.block ?_)
 refine AWP.loopW (bdB s b6 H) (s.length) ⟨0, Nat.zero_le _, rfl, rfl, rfl⟩ (zA rfl zL) (Heap.le.refl _) ?_
 rintro _ _ _ ⟨p, hp, rfl, rfl, hk⟩
 refine .sr (.s rfl (bbV (tm rfl) (Heap.objs_set_same _ _ _)) ?_)
 rintro _ Hn ⟨q7, rfl, hn7, hm7⟩
 refine .p rfl (zD (tm rfl) rfl) (.ng (.seq ?_))
 refine AWP.cond (tm rfl) (fun hc8 => ?_) (fun hc8 => ?_)
 ·try simp only [decide_eq_true_eq] at hc8
  obtain ⟨rfl, rfl⟩ := hn7 (by omega)
  have hda := hd.at (show p < s.length by omega)
  rw [bfB (by omega) (by omega)]
  refine .skip ?_
  refine Next.go ?_
  refine .block (.sr (.p rfl (zD (tm rfl) rfl) (.as rfl rfl (.ng ?_))))
  refine AWP.seqTo 15 (.bool (false)) [6] ?_ ?_
  ·-- region 4
   refine .region (.mv rfl rfl (.p rfl (zY (tm rfl) zE) (.mv rfl rfl ?_)))
   refine zQ (t := 12) rfl (fun hg12 => ?_) (fun hg12 => ?_)
   ·refine .gn rfl rfl rfl (by assumption) (.gn rfl rfl rfl (by assumption) (.p rfl (zN (tm rfl) (by assumption) zK) (.nil ?_)))
    exact ⟨rfl, yV rfl (by (exfalso; have := of_decide_eq_true hg12; omega)) (zA rfl zL), rfl⟩
   ·refine .gp rfl rfl rfl (by assumption) (zC (tm rfl)) (.gp rfl rfl rfl (by assumption) (yF (tm rfl) zE) (.p rfl (zM (tm rfl) (by assumption) (tm rfl)) (.nil ?_)))
    exact ⟨rfl, yV rfl (by (congr 1; exact decide_eq_false (by omega))) (zA rfl zL), rfl⟩
  ·refine AWP.sub [(15, _), (6, _)] (zA rfl (zA rfl zL)) ?_
   refine AWP.cond_false (tm rfl) (by rfl) ?_
   refine .skip ?_
   refine Block.go ?_
   refine Next.go ?_
   refine Round.mk (J := bdB s b6 H) ⟨p + 1, by omega, rfl, by rw [Heap.set_set], rfl⟩ (zA rfl zL) (Heap.le.refl _) (by omega)
 ·try simp only [decide_eq_false_iff_not] at hc8
  obtain ⟨rfl, rfl⟩ := hm7 (by omega)
  refine .exit ?_
  refine Next.ex ?_
  refine Next.ex ?_
  refine Block.hit ?_
  refine Next.go ?_
  refine .sr (.p rfl (zB zK) (.ng (.ret ?_)))
  refine Ret.go (.cons (.tmp _ _ rfl) .nil) _ (Heap.le_set hb6 _) ?_
  exact ⟨rfl, rfl⟩

set_option maxRecDepth 100000 in
theorem acL (neg : Bool) (ds : List UInt8) (e : Int) (hd : Digs ds) (H : Heap) : ACall Tryz.prog 60 [dA neg ds e] H (fun y H' => y = .bool (qG ds e) ∧ H' = H) := by
 refine ACall.of_body Tryz.func60 rfl Tryz.ntmps60 Tryz.results60 rfl ?_
 refine .sr (.e rfl (yR (tm rfl) (.inr ⟨_, rfl⟩)) (.p rfl (zB zK) (.ng (.seq (.sr (.p rfl (zG Tryz.underlying48 rfl Tryz.sizeOf9 (tm rfl)) (.p rfl (zF Tryz.isAgg9 (tm rfl)) (.p rfl (qK (tm rfl) (zS rfl)) ?_))))))))
 refine .ng ?_
 refine AWP.cond (tm rfl) (fun hc5 => ?_) (fun hc5 => ?_)
 ·try simp only [decide_eq_true_eq] at hc5
  refine .sr (.p rfl (zG Tryz.underlying48 rfl Tryz.sizeOf3 (tm rfl)) (.p rfl (zF Tryz.isAgg3 (tm rfl)) (.p rfl (yA (tm rfl) zE) (.as rfl rfl (.ng (.ret ?_))))))
  refine Next.rt ?_
  refine Ret.go (.cons (.tmp _ _ rfl) .nil) _ (Heap.le.refl _) ?_
  refine ⟨?_, rfl⟩
  unfold qG
  rw [if_pos hc5]; rfl
 ·try simp only [decide_eq_false_iff_not] at hc5
  have hlp : 0 < ds.length := List.length_pos_iff.2 hc5
  have hsuf := (bbT hlp).trans (auS (b := ds.getD (ds.length - 1) 0) 48 (by decide)).symm
  refine .skip ?_
  refine Next.go ?_
  refine AWP.seqTo 2 (.bool (decide ((ds.length : Int) ≤ 1100) && decide (-100000 ≤ e) && decide (e ≤ 100000) && true && decide (((ds.getD 0 0).toNat : Int) ≠ 48) && !(Lib.hasSuffix ds [48]))) [] ?_ ?_
  ·-- region 3
   refine .region (.p rfl (zG Tryz.underlying48 rfl Tryz.sizeOf9 (tm rfl)) (.p rfl (zF Tryz.isAgg9 (tm rfl)) (.p rfl (yJ Tryz.underlying9 (tm rfl)) (.p rfl (abM (tm rfl) zE) (.mv rfl rfl ?_)))))
   refine zQ (t := 13) rfl (fun hg13 => ?_) (fun hg13 => ?_)
   ·have hh13 := hg13; try simp only [decide_eq_true_eq] at hh13
    refine .gp rfl rfl rfl (by assumption) (zG Tryz.underlying48 rfl Tryz.sizeOf3 (tm rfl)) (.gp rfl rfl rfl (by assumption) (zF Tryz.isAgg3 (tm rfl)) (.gp rfl rfl rfl (by assumption) (qH (tm rfl) zE) (.p rfl (zN (tm rfl) (by assumption) (tm rfl)) (.mv rfl rfl ?_))))
    refine zQ (t := 18) rfl (fun hg18 => ?_) (fun hg18 => ?_)
    ·have hh18 := hg18; try simp only [decide_eq_true_eq] at hh18
     refine .gp rfl rfl rfl (by assumption) (zG Tryz.underlying48 rfl Tryz.sizeOf3 (tm rfl)) (.gp rfl rfl rfl (by assumption) (zF Tryz.isAgg3 (tm rfl)) (.gp rfl rfl rfl (by assumption) (abM (tm rfl) zE) (.p rfl (zN (tm rfl) (by assumption) (tm rfl)) (.mv rfl rfl ?_))))
     refine zQ (t := 23) rfl (fun hg23 => ?_) (fun hg23 => ?_)
     ·have hh23 := hg23; try simp only [decide_eq_true_eq] at hh23
      refine .gp rfl rfl rfl (by assumption) (zG Tryz.underlying48 rfl Tryz.sizeOf9 (tm rfl)) (.gp rfl rfl rfl (by assumption) (zF Tryz.isAgg9 (tm rfl)) (.gs rfl rfl rfl (by assumption) (zP Tryz.call67 (evs1 rfl) (alE _ hd _)) ?_))
      rintro _ _ ⟨rfl, hH⟩
      obtain rfl := hH.symm
      refine .p rfl (zN (tm rfl) (by assumption) (tm rfl)) (.mv rfl rfl ?_)
      refine zQ (t := 28) rfl (fun hg28 => ?_) (fun hg28 => ?_)
      ·have hh28 := hg28; try simp only [] at hh28
       refine .gp rfl rfl rfl (by rfl) (zG Tryz.underlying48 rfl Tryz.sizeOf9 (tm rfl)) (.gp rfl rfl rfl (by rfl) (zF Tryz.isAgg9 (tm rfl)) (.gp rfl rfl rfl (by rfl) (aaS Tryz.underlying9 (tm rfl) zE (by omega) (by omega)) (.gp rfl rfl rfl (by rfl) (aaO (tm rfl) zE) (.p rfl (zN (tm rfl) (by rfl) (tm rfl)) (.mv rfl rfl ?_)))))
       refine zQ (t := 34) rfl (fun hg34 => ?_) (fun hg34 => ?_)
       ·have hh34 := hg34; try simp only [decide_eq_true_eq, ne_eq] at hh34
        refine .gp rfl rfl rfl (by assumption) (zG Tryz.underlying48 rfl Tryz.sizeOf9 (tm rfl)) (.gp rfl rfl rfl (by assumption) (zF Tryz.isAgg9 (tm rfl)) (.gs rfl rfl rfl (by assumption) (zP Tryz.call94 (.cons (tm rfl) (.cons (zS rfl) .nil)) (hasSuffixA _ _ _)) ?_))
        rintro _ _ ⟨rfl, hH⟩
        obtain rfl := hH.symm
        refine .gp rfl rfl rfl (by assumption) (qY (tm rfl)) (.p rfl (zN (tm rfl) (by assumption) (tm rfl)) (.as rfl rfl (.nil ?_)))
        exact ⟨rfl, yV rfl (by simp_all) zL, rfl⟩
       ·have hh34 := hg34; try simp only [decide_eq_false_iff_not, ne_eq, Decidable.not_not] at hh34
        refine .gn rfl rfl rfl (by assumption) (.gn rfl rfl rfl (by assumption) (.gn rfl rfl rfl (by assumption) (.gn rfl rfl rfl (by assumption) (.p rfl (zM (tm rfl) (by assumption) zK) (.as rfl rfl (.nil ?_))))))
        exact ⟨rfl, yV rfl (by simp_all) zL, rfl⟩
      ·have hh28 := hg28; try simp only [decide_eq_true_eq, decide_eq_false_iff_not, Bool.not_eq_true', Bool.not_eq_false', Int.not_lt, Int.not_le, ne_eq, Decidable.not_not] at hh28
       refine .gn rfl rfl rfl (by assumption) (.gn rfl rfl rfl (by assumption) (.gn rfl rfl rfl (by assumption) (.gn rfl rfl rfl (by assumption) (.p rfl (zM (tm rfl) (by assumption) zK) (.mv rfl rfl (.gn rfl rfl rfl (by rfl) (.gn rfl rfl rfl (by rfl) (.gn rfl rfl rfl (by rfl) ?_))))))))
       refine .gn rfl rfl rfl (by rfl) (.p rfl (zM (tm rfl) (by rfl) zK) (.as rfl rfl (.nil ?_)))
       exact ⟨rfl, yV rfl (by (simp [*]; done)) zL, rfl⟩
     ·have hh23 := hg23; try simp only [decide_eq_false_iff_not, Int.not_le] at hh23
      refine .gn rfl rfl rfl (by assumption) (.gn rfl rfl rfl (by assumption) (.gn rfl rfl rfl (by assumption) (.p rfl (zM (tm rfl) (by assumption) zK) (.mv rfl rfl (.gn rfl rfl rfl (by rfl) (.gn rfl rfl rfl (by rfl) (.gn rfl rfl rfl (by rfl) (.gn rfl rfl rfl (by rfl) ?_))))))))
      refine .p rfl (zM (tm rfl) (by rfl) zK) (.mv rfl rfl (.gn rfl rfl rfl (by rfl) (.gn rfl rfl rfl (by rfl) (.gn rfl rfl rfl (by rfl) (.gn rfl rfl rfl (by rfl) (.p rfl (zM (tm rfl) (by rfl) zK) (.as rfl rfl (.nil ?_))))))))
      exact ⟨rfl, yV rfl (by (simp [*]; done)) zL, rfl⟩
    ·have hh18 := hg18; try simp only [decide_eq_false_iff_not, Int.not_le] at hh18
     refine .gn rfl rfl rfl (by assumption) (.gn rfl rfl rfl (by assumption) (.gn rfl rfl rfl (by assumption) (.p rfl (zM (tm rfl) (by assumption) zK) (.mv rfl rfl (.gn rfl rfl rfl (by rfl) (.gn rfl rfl rfl (by rfl) (.gn rfl rfl rfl (by rfl) (.p rfl (zM (tm rfl) (by rfl) zK) ?_))))))))
     refine .mv rfl rfl (.gn rfl rfl rfl (by rfl) (.gn rfl rfl rfl (by rfl) (.gn rfl rfl rfl (by rfl) (.gn rfl rfl rfl (by rfl) (.p rfl (zM (tm rfl) (by rfl) zK) (.mv rfl rfl (.gn rfl rfl rfl (by rfl) (.gn rfl rfl rfl (by rfl) ?_))))))))
     refine .gn rfl rfl rfl (by rfl) (.gn rfl rfl rfl (by rfl) (.p rfl (zM (tm rfl) (by rfl) zK) (.as rfl rfl (.nil ?_))))
     exact ⟨rfl, yV rfl (by (simp [*]; done)) zL, rfl⟩
   ·have hh13 := hg13; try simp only [decide_eq_false_iff_not, Int.not_le] at hh13
    refine .gn rfl rfl rfl (by assumption) (.gn rfl rfl rfl (by assumption) (.gn rfl rfl rfl (by assumption) (.p rfl (zM (tm rfl) (by assumption) zK) (.mv rfl rfl (.gn rfl rfl rfl (by rfl) (.gn rfl rfl rfl (by rfl) (.gn rfl rfl rfl (by rfl) (.p rfl (zM (tm rfl) (by rfl) zK) ?_))))))))
    refine .mv rfl rfl (.gn rfl rfl rfl (by rfl) (.gn rfl rfl rfl (by rfl) (.gn rfl rfl rfl (by rfl) (.p rfl (zM (tm rfl) (by rfl) zK) (.mv rfl rfl (.gn rfl rfl rfl (by rfl) (.gn rfl rfl rfl (by rfl) (.gn rfl rfl rfl (by rfl) ?_))))))))
    refine .gn rfl rfl rfl (by rfl) (.p rfl (zM (tm rfl) (by rfl) zK) (.mv rfl rfl (.gn rfl rfl rfl (by rfl) (.gn rfl rfl rfl (by rfl) (.gn rfl rfl rfl (by rfl) (.gn rfl rfl rfl (by rfl) (.p rfl (zM (tm rfl) (by rfl) zK) (.as rfl rfl ?_))))))))
    refine .nil ?_
    exact ⟨rfl, yV rfl (by (simp [*]; done)) zL, rfl⟩
  ·refine AWP.sub [(2, _)] (zA rfl zL) ?_
   refine .ret ?_
   refine Ret.go (.cons (.tmp _ _ rfl) .nil) _ (Heap.le.refl _) ?_
   refine ⟨?_, rfl⟩
   simp only [yZ]
   rw [akQ hc5, adA.2 hd, hsuf, Bool.and_true, Bool.and_true]; rfl

def aeU (ds : List UInt8) (e : Int) : Int := if qG ds e then (ds.length : Int) + e else 0
theorem ayE (ds : List UInt8) (e : Int) : (decide ((1100 : Int) < (ds.length : Int)) || decide (e < -100000) || decide ((100000 : Int) < e) || decide (((ds.getD 0 0).toNat : Int) = 48) || decide (((ds.getD (ds.length - 1) 0).toNat : Int) = 48)) = !akR ds e := by
 unfold akR
 rw [show decide ((1100 : Int) < (ds.length : Int)) = !decide ((ds.length : Int) ≤ 1100) by rw [← decide_not]; exact decide_eq_decide.2 (by omega),
   show decide (e < -100000) = !decide (-100000 ≤ e) by rw [← decide_not]; exact decide_eq_decide.2 (by omega), show decide ((100000 : Int) < e) = !decide (e ≤ 100000) by rw [← decide_not]; exact decide_eq_decide.2 (by omega),
   show decide (((ds.getD 0 0).toNat : Int) ≠ 48) = !decide (((ds.getD 0 0).toNat : Int) = 48) from decide_not]
 generalize decide ((ds.length : Int) ≤ 1100) = a1
 generalize decide (-100000 ≤ e) = a2
 generalize decide (e ≤ 100000) = a3
 generalize decide (((ds.getD 0 0).toNat : Int) = 48) = a5
 generalize decide (((ds.getD (ds.length - 1) 0).toNat : Int) = 48) = a6
 cases a1 <;> cases a2 <;> cases a3 <;> cases a5 <;> cases a6 <;> rfl

set_option maxRecDepth 100000 in
theorem agU (neg : Bool) (ds : List UInt8) (e : Int) (hd : Digs ds) (H : Heap) : ACall Tryz.prog 43 [dA neg ds e] H (fun y H' => y = .int .i64 (aeU ds e) ∧ H' = H) := by
 refine ACall.of_body Tryz.func43 rfl Tryz.ntmps43 Tryz.results43 rfl ?_
 refine .sr (.e rfl (yR (tm rfl) (.inr ⟨_, rfl⟩)) (.p rfl (zB zE) (.ng (.seq (.sr (.p rfl (zU Tryz.isAgg48 Tryz.sizeOf48 (tm rfl) (Nat.le_of_ble_eq_true rfl)) (.cl rfl Tryz.call60 (evs1 rfl) (acL neg ds e hd _) (.p rfl (qY (tm rfl)) ?_))))))))
 refine .ng ?_
 refine AWP.cond (tm rfl) (fun hc5 => ?_) (fun hc5 => ?_)
 ·try simp only [Bool.not_eq_true'] at hc5
  refine .sr (.p rfl (zB zE) (.ng (.ret ?_)))
  refine Next.rt ?_
  refine Ret.go (.cons (.tmp _ _ rfl) .nil) _ (Heap.le.refl _) ?_
  refine ⟨?_, rfl⟩
  unfold aeU
  rw [if_neg (by simp [hc5])]; rfl
 ·try simp only [Bool.not_eq_false'] at hc5
  have hrl := aaQ (show qG ds e = true from by simpa using hc5)
  refine .skip ?_
  refine Next.go ?_
  refine .sr (.p rfl (zG Tryz.underlying48 rfl Tryz.sizeOf9 (tm rfl)) (.p rfl (zF Tryz.isAgg9 (tm rfl)) (.p rfl (yJ Tryz.underlying9 (tm rfl)) (.p rfl (zG Tryz.underlying48 rfl Tryz.sizeOf3 (tm rfl)) (.p rfl (zF Tryz.isAgg3 (tm rfl)) (.p rfl (zR (tm rfl) (tm rfl) (by omega)) (.as rfl rfl (.ng ?_))))))))
  refine .ret ?_
  refine Ret.go (.cons (.tmp _ _ rfl) .nil) _ (Heap.le.refl _) ?_
  refine ⟨?_, rfl⟩
  unfold aeU
  rw [if_pos (by simpa using hc5)]; rfl

set_option maxRecDepth 100000 in
theorem aqQ (b : UInt8) (H : Heap) : ACall Tryz.prog 58 [.int .u8 ((b.toNat : Nat) : Int)] H (fun y H' => y = .bool (digC b) ∧ H' = H) := by
 refine ACall.of_body Tryz.func58 rfl Tryz.ntmps58 Tryz.results58 rfl ?_
 refine .sr (.p rfl (zB zK) (.ng ?_))
 refine AWP.seqTo 2 (.bool (digC b)) [] ?_ ?_
 ·-- region 1
  refine .region (.mv rfl rfl (.p rfl (qH (tm rfl) zE) (.mv rfl rfl ?_)))
  refine zQ (t := 5) rfl (fun hg5 => ?_) (fun hg5 => ?_)
  ·have hh5 := hg5; try simp only [decide_eq_true_eq] at hh5
   refine .gp rfl rfl rfl (by assumption) (zC (tm rfl)) (.gp rfl rfl rfl (by assumption) (abM (tm rfl) zE) (.p rfl (zN (tm rfl) (by assumption) (tm rfl)) (.as rfl rfl (.nil ?_))))
   exact ⟨rfl, yV rfl (by (unfold digC; rw [show decide ((48 : Int) ≤ ((b.toNat : Nat) : Int)) = _ from hg5]; rfl)) zL, rfl⟩
  ·have hh5 := hg5; try simp only [decide_eq_false_iff_not, Int.not_le] at hh5
   refine .gn rfl rfl rfl (by assumption) (.gn rfl rfl rfl (by assumption) (.p rfl (zM (tm rfl) (by assumption) zK) (.as rfl rfl (.nil ?_))))
   exact ⟨rfl, yV rfl (by (unfold digC; rw [show decide ((48 : Int) ≤ ((b.toNat : Nat) : Int)) = _ from hg5]; rfl)) zL, rfl⟩
 ·refine AWP.sub [(2, _)] (zA rfl zL) ?_
  refine .ret ?_
  refine Ret.go (.cons (.tmp _ _ rfl) .nil) _ (Heap.le.refl _) ?_
  exact ⟨rfl, rfl⟩

def avU (neg : Bool) (ds : List UInt8) (e : Int) (H : Heap) : Nat → Env → Heap → Prop := fun k env H1 => ∃ i : Nat, i ≤ ds.length ∧ anW (ds.take i) = true ∧ env = [(1, .iptr [.bool neg, .str ds, .int .i64 e]), (3, .int .i64 (ds.length : Int)), (4, .int .i64 (i : Int))] ∧ H = H1 ∧ k = ds.length - i

set_option maxRecDepth 100000 in
theorem ajC (neg : Bool) (ds : List UInt8) (e : Int) (hl : ds.length ≤ maxLen) (H : Heap) : ACall Tryz.prog 19 [dA neg ds e] H (fun y H' => y = .bool (qG ds e) ∧ H' = H) := by
 rw [zX] at hl
 refine ACall.of_body Tryz.func19 rfl Tryz.ntmps19 Tryz.results19 rfl ?_
 refine .sr (.e rfl (yR (tm rfl) (.inr ⟨_, rfl⟩)) (.p rfl (zB zK) (.nr (.p rfl (zG Tryz.underlying48 rfl Tryz.sizeOf9 (tm rfl)) (.p rfl (zF Tryz.isAgg9 (tm rfl)) (.p rfl (yJ Tryz.underlying9 (tm rfl)) (.as rfl rfl (.ng ?_))))))))
 refine .seq (.sr (.mv rfl rfl (.p rfl (yA (tm rfl) zE) (.ng ?_))))
 refine AWP.cond (tm rfl) (fun hc10 => ?_) (fun hc10 => ?_)
 ·try simp only [decide_eq_true_eq] at hc10
  refine .sr (.p rfl (zG Tryz.underlying48 rfl Tryz.sizeOf3 (tm rfl)) (.p rfl (zF Tryz.isAgg3 (tm rfl)) (.p rfl (yA (tm rfl) zE) (.as rfl rfl (.ng (.ret ?_))))))
  refine Next.rt ?_
  refine Ret.go (.cons (.tmp _ _ rfl) .nil) _ (Heap.le.refl _) ?_
  refine ⟨?_, rfl⟩
  have h0 : ds = [] := List.length_eq_zero_iff.1 (by omega)
  unfold qG
  rw [if_pos h0]; rfl
 ·try simp only [decide_eq_false_iff_not] at hc10
  have hlp : 0 < ds.length := by omega
  have hne := List.length_pos_iff.1 hlp
  have hrq := akQ (e := e) hne
  have hrn := ayE ds e
  refine .skip ?_
  refine Next.go ?_
  refine .seq ?_
  refine AWP.seqTo 39 (.bool ((decide ((1100 : Int) < (ds.length : Int)) || decide (e < -100000) || decide ((100000 : Int) < e) || decide (((ds.getD 0 0).toNat : Int) = 48) || decide (((ds.getD (ds.length - 1) 0).toNat : Int) = 48)))) [1, 2, 3] ?_ ?_
  ·-- region 4
   refine .region (.mv rfl rfl (.p rfl (yF (tm rfl) zE) (.mv rfl rfl ?_)))
   refine zQ (t := 16) rfl (fun hg16 => ?_) (fun hg16 => ?_)
   ·have hh16 := hg16; try simp only [decide_eq_true_eq] at hh16
    refine .gn rfl rfl rfl (by assumption) (.gn rfl rfl rfl (by assumption) (.gn rfl rfl rfl (by assumption) (.p rfl (zN (tm rfl) (by assumption) zK) (.mv rfl rfl (.gn rfl rfl rfl (by rfl) (.gn rfl rfl rfl (by rfl) (.gn rfl rfl rfl (by rfl) (.p rfl (zN (tm rfl) (by rfl) zK) ?_))))))))
    refine .mv rfl rfl (.gn rfl rfl rfl (by rfl) (.gn rfl rfl rfl (by rfl) (.gn rfl rfl rfl (by rfl) (.gn rfl rfl rfl (by rfl) (.p rfl (zN (tm rfl) (by rfl) zK) (.mv rfl rfl (.gn rfl rfl rfl (by rfl) (.gn rfl rfl rfl (by rfl) ?_))))))))
    refine .gn rfl rfl rfl (by rfl) (.gn rfl rfl rfl (by rfl) (.gn rfl rfl rfl (by rfl) (.gn rfl rfl rfl (by rfl) (.p rfl (zN (tm rfl) (by rfl) zK) (.nil ?_)))))
    exact ⟨rfl, yV rfl (by (rw [show decide ((1100 : Int) < (ds.length : Int)) = _ from hg16]; rfl)) (zA rfl (zA rfl (zA rfl zL))), rfl⟩
   ·have hh16 := hg16; try simp only [decide_eq_false_iff_not, Int.not_lt] at hh16
    refine .gp rfl rfl rfl (by assumption) (zG Tryz.underlying48 rfl Tryz.sizeOf3 (tm rfl)) (.gp rfl rfl rfl (by assumption) (zF Tryz.isAgg3 (tm rfl)) (.gp rfl rfl rfl (by assumption) (zY (tm rfl) zE) (.p rfl (zM (tm rfl) (by assumption) (tm rfl)) (.mv rfl rfl ?_))))
    refine zQ (t := 21) rfl (fun hg21 => ?_) (fun hg21 => ?_)
    ·have hh21 := hg21; try simp only [decide_eq_true_eq] at hh21
     refine .gn rfl rfl rfl (by assumption) (.gn rfl rfl rfl (by assumption) (.gn rfl rfl rfl (by assumption) (.p rfl (zN (tm rfl) (by assumption) zK) (.mv rfl rfl (.gn rfl rfl rfl (by rfl) (.gn rfl rfl rfl (by rfl) (.gn rfl rfl rfl (by rfl) (.gn rfl rfl rfl (by rfl) ?_))))))))
     refine .p rfl (zN (tm rfl) (by rfl) zK) (.mv rfl rfl (.gn rfl rfl rfl (by rfl) (.gn rfl rfl rfl (by rfl) (.gn rfl rfl rfl (by rfl) (.gn rfl rfl rfl (by rfl) (.gn rfl rfl rfl (by rfl) (.gn rfl rfl rfl (by rfl) (.p rfl (zN (tm rfl) (by rfl) zK) ?_))))))))
     refine .nil ?_
     exact ⟨rfl, yV rfl (by (rw [show decide ((1100 : Int) < (ds.length : Int)) = _ from hg16, show decide (e < -100000) = _ from hg21]; rfl)) (zA rfl (zA rfl (zA rfl zL))), rfl⟩
    ·have hh21 := hg21; try simp only [decide_eq_false_iff_not, Int.not_lt] at hh21
     refine .gp rfl rfl rfl (by assumption) (zG Tryz.underlying48 rfl Tryz.sizeOf3 (tm rfl)) (.gp rfl rfl rfl (by assumption) (zF Tryz.isAgg3 (tm rfl)) (.gp rfl rfl rfl (by assumption) (yF (tm rfl) zE) (.p rfl (zM (tm rfl) (by assumption) (tm rfl)) (.mv rfl rfl ?_))))
     refine zQ (t := 26) rfl (fun hg26 => ?_) (fun hg26 => ?_)
     ·have hh26 := hg26; try simp only [decide_eq_true_eq] at hh26
      refine .gn rfl rfl rfl (by assumption) (.gn rfl rfl rfl (by assumption) (.gn rfl rfl rfl (by assumption) (.gn rfl rfl rfl (by assumption) (.p rfl (zN (tm rfl) (by assumption) zK) (.mv rfl rfl (.gn rfl rfl rfl (by rfl) (.gn rfl rfl rfl (by rfl) (.gn rfl rfl rfl (by rfl) ?_))))))))
      refine .gn rfl rfl rfl (by rfl) (.gn rfl rfl rfl (by rfl) (.gn rfl rfl rfl (by rfl) (.p rfl (zN (tm rfl) (by rfl) zK) (.nil ?_))))
      exact ⟨rfl, yV rfl (by (rw [show decide ((1100 : Int) < (ds.length : Int)) = _ from hg16, show decide (e < -100000) = _ from hg21, show decide ((100000 : Int) < e) = _ from hg26]; rfl)) (zA rfl (zA rfl (zA rfl zL))), rfl⟩
     ·have hh26 := hg26; try simp only [decide_eq_false_iff_not, Int.not_lt] at hh26
      refine .gp rfl rfl rfl (by assumption) (zG Tryz.underlying48 rfl Tryz.sizeOf9 (tm rfl)) (.gp rfl rfl rfl (by assumption) (zF Tryz.isAgg9 (tm rfl)) (.gp rfl rfl rfl (by assumption) (aaS Tryz.underlying9 (tm rfl) zE (by omega) (by omega)) (.gp rfl rfl rfl (by assumption) (yA (tm rfl) zE) (.p rfl (zM (tm rfl) (by assumption) (tm rfl)) (.mv rfl rfl ?_)))))
      refine zQ (t := 32) rfl (fun hg32 => ?_) (fun hg32 => ?_)
      ·have hh32 := hg32; try simp only [decide_eq_true_eq] at hh32
       refine .gn rfl rfl rfl (by assumption) (.gn rfl rfl rfl (by assumption) (.gn rfl rfl rfl (by assumption) (.gn rfl rfl rfl (by assumption) (.gn rfl rfl rfl (by assumption) (.gn rfl rfl rfl (by assumption) (.p rfl (zN (tm rfl) (by assumption) zK) (.nil ?_)))))))
       exact ⟨rfl, yV rfl (by (rw [show decide ((1100 : Int) < (ds.length : Int)) = _ from hg16, show decide (e < -100000) = _ from hg21, show decide ((100000 : Int) < e) = _ from hg26, show decide (((ds.getD 0 0).toNat : Int) = 48) = _ from hg32]; rfl)) (zA rfl (zA rfl (zA rfl zL))), rfl⟩
      ·have hh32 := hg32; try simp only [decide_eq_false_iff_not] at hh32
       refine .gp rfl rfl rfl (by assumption) (zG Tryz.underlying48 rfl Tryz.sizeOf9 (tm rfl)) (.gp rfl rfl rfl (by assumption) (zF Tryz.isAgg9 (tm rfl)) (.gp rfl rfl rfl (by assumption) (zC (tm rfl)) (.gp rfl rfl rfl (by assumption) (zZ (tm rfl) zE (by omega)) (.gp rfl rfl rfl (by assumption) (aaS Tryz.underlying9 (tm rfl) (tm rfl) (by omega) (by omega)) (.gp rfl rfl rfl (by assumption) (yA (tm rfl) zE) (.p rfl (zM (tm rfl) (by assumption) (tm rfl)) (.nil ?_)))))))
       exact ⟨rfl, yV rfl (by (rw [show decide ((1100 : Int) < (ds.length : Int)) = _ from hg16, show decide (e < -100000) = _ from hg21, show decide ((100000 : Int) < e) = _ from hg26, show decide (((ds.getD 0 0).toNat : Int) = 48) = _ from hg32, show ((ds.length : Int) - 1).toNat = ds.length - 1 by omega]; rfl)) (zA rfl (zA rfl (zA rfl zL))), rfl⟩
  ·refine AWP.sub [(39, _), (1, _), (2, _), (3, _)] (zA rfl (zA rfl (zA rfl (zA rfl zL)))) ?_
   refine AWP.cond (tm rfl) (fun hc39 => ?_) (fun hc39 => ?_)
   ·try simp only [decide_eq_true_eq, decide_eq_false_iff_not, Bool.not_eq_true', Bool.not_eq_false', Int.not_lt, Int.not_le, ne_eq, Decidable.not_not] at hc39
    rw [hrn] at hc39
    have hrc : akR ds e = false := by simpa using hc39
    refine .sr (.p rfl (zB zK) (.ng (.ret ?_)))
    refine Next.rt ?_
    refine Ret.go (.cons (.tmp _ _ rfl) .nil) _ (Heap.le.refl _) ?_
    refine ⟨?_, rfl⟩
    rw [hrq, hrc]; rfl
   ·try simp only [decide_eq_true_eq, decide_eq_false_iff_not, Bool.not_eq_true', Bool.not_eq_false', Int.not_lt, Int.not_le, ne_eq, Decidable.not_not] at hc39
    rw [hrn] at hc39
    have hrc : akR ds e = true := by simpa using hc39
    refine .skip ?_
    refine Next.go ?_
    refine .seq (.sr (.p rfl (zB zE) (.ng (.block ?_))))
    refine AWP.loopW (avU neg ds e H) (ds.length) ⟨0, Nat.zero_le _, rfl, rfl, rfl, rfl⟩ (zA rfl (zA rfl (zA rfl zL))) (Heap.le.refl _) ?_
    rintro _ _ _ ⟨i, hi, hdg, rfl, rfl, hk⟩
    refine .seq (.sr (.mv rfl rfl (.mv rfl rfl (.p rfl (zY (tm rfl) (tm rfl)) (.ng ?_)))))
    refine AWP.cond (tm rfl) (fun hc42 => ?_) (fun hc42 => ?_)
    ·try simp only [decide_eq_true_eq] at hc42
     have hdt := bfA (ds := ds) (by omega) hdg
     refine .skip ?_
     refine Next.go ?_
     refine .seq (.block (.sr (.p rfl (zG Tryz.underlying48 rfl Tryz.sizeOf9 (tm rfl)) (.p rfl (zF Tryz.isAgg9 (tm rfl)) (.mv rfl rfl (.p rfl (aaS Tryz.underlying9 (tm rfl) (tm rfl) (by omega) (by omega)) (.cl rfl Tryz.call58 (evs1 rfl) (aqQ _ _) (.as rfl rfl ?_))))))))
     refine .nr (.mv rfl rfl (.p rfl (qY (tm rfl)) (.ng ?_)))
     refine AWP.cond (tm rfl) (fun hc51 => ?_) (fun hc51 => ?_)
     ·try simp only [Bool.not_eq_true'] at hc51
      have hdf : digC (ds.getD i 0) = false := by simpa using hc51
      refine .sr (.p rfl (zB zK) (.ng (.ret ?_)))
      refine Block.rt ?_
      refine Next.rt ?_
      refine Next.rt ?_
      refine Block.rt ?_
      refine Next.rt ?_
      refine Ret.go (.cons (.tmp _ _ rfl) .nil) _ (Heap.le.refl _) ?_
      refine ⟨?_, rfl⟩
      have hdb : anW ds = false := by
       cases h : anW ds with
       | false => rfl
       | true => have := arZ (i := i + 1) h; rw [hdt, hdf] at this; cases this
      rw [hrq, hdb, Bool.and_false]; rfl
     ·try simp only [Bool.not_eq_false'] at hc51
      have hdf : digC (ds.getD i 0) = true := by simpa using hc51
      refine .skip ?_
      refine Block.go ?_
      refine Next.go ?_
      refine .region (.mv rfl rfl (.p rfl (zR (tm rfl) zE (by omega)) (.as rfl rfl (.ng ?_))))
      refine Round.mk (J := avU neg ds e H) ⟨i + 1, by omega, by rw [hdt, hdf], rfl, rfl, rfl⟩ (zA rfl (zA rfl (zA rfl zL))) (Heap.le.refl _) (by omega)
    ·try simp only [decide_eq_false_iff_not, Int.not_lt] at hc42
     refine .exit ?_
     refine Next.ex ?_
     refine Next.ex ?_
     refine Block.hit ?_
     refine Next.go ?_
     refine .sr (.p rfl (zB zK) (.ng (.ret ?_)))
     refine Ret.go (.cons (.tmp _ _ rfl) .nil) _ (Heap.le.refl _) ?_
     refine ⟨?_, rfl⟩
     rw [List.take_of_length_le (by omega)] at hdg
     rw [hrq, hrc, hdg]; rfl

set_option maxRecDepth 100000 in
theorem aqT (neg : Bool) (ds : List UInt8) (e : Int) (hl : ds.length ≤ maxLen) (H : Heap) : ACall Tryz.prog 45 [dA neg ds e] H (fun y H' => y = .int .i64 (aeU ds e) ∧ H' = H) := by
 refine ACall.of_body Tryz.func45 rfl Tryz.ntmps45 Tryz.results45 rfl ?_
 refine .sr (.e rfl (yR (tm rfl) (.inr ⟨_, rfl⟩)) (.p rfl (zB zE) (.nr (.p rfl (zU Tryz.isAgg48 Tryz.sizeOf48 (tm rfl) (Nat.le_of_ble_eq_true rfl)) (.cl rfl Tryz.call19 (evs1 rfl) (ajC neg ds e hl _) (.as rfl rfl (.ng (.seq ?_))))))))
 refine .sr (.mv rfl rfl (.p rfl (qY (tm rfl)) (.ng ?_)))
 refine AWP.cond (tm rfl) (fun hc7 => ?_) (fun hc7 => ?_)
 ·try simp only [Bool.not_eq_true'] at hc7
  refine .sr (.p rfl (zB zE) (.ng (.ret ?_)))
  refine Next.rt ?_
  refine Ret.go (.cons (.tmp _ _ rfl) .nil) _ (Heap.le.refl _) ?_
  refine ⟨?_, rfl⟩
  unfold aeU
  rw [if_neg (by simp [hc7])]; rfl
 ·try simp only [Bool.not_eq_false'] at hc7
  have hrl := aaQ (show qG ds e = true from by simpa using hc7)
  refine .skip ?_
  refine Next.go ?_
  refine .sr (.p rfl (zG Tryz.underlying48 rfl Tryz.sizeOf9 (tm rfl)) (.p rfl (zF Tryz.isAgg9 (tm rfl)) (.p rfl (yJ Tryz.underlying9 (tm rfl)) (.p rfl (zG Tryz.underlying48 rfl Tryz.sizeOf3 (tm rfl)) (.p rfl (zF Tryz.isAgg3 (tm rfl)) (.p rfl (zR (tm rfl) (tm rfl) (by omega)) (.as rfl rfl (.ng ?_))))))))
  refine .ret ?_
  refine Ret.go (.cons (.tmp _ _ rfl) .nil) _ (Heap.le.refl _) ?_
  refine ⟨?_, rfl⟩
  unfold aeU
  rw [if_pos (by simpa using hc7)]; rfl
set_option maxRecDepth 100000 in
theorem aiR (neg : Bool) (ds : List UInt8) (e : Int) (hd : Digs ds) (hl : ds.length ≤ 100000) (he : -1000000000000 ≤ e ∧ e ≤ 1000000000000) (H : Heap) : ACall Tryz.prog 34 [.bool neg, .str ds, .int .i64 e] H (fun y H' => y = dT (mkN neg ds e) ∧ H' = H) := by
 have hlo := arX ds 48
 have hml := agX (ds.dropWhile (· == 48)) 48
 have hmo : e + (((ds.dropWhile (· == 48)).length : Int) - ((Lib.trimRightB (ds.dropWhile (· == 48)) 48).length : Int)) = e + (amL ds : Int) := by unfold amL acV arH; omega
 have hdc : Digs (Lib.trimRightB (ds.dropWhile (· == 48)) 48) := (hd.dropWhile _).trimR _
 refine ACall.of_body Tryz.func34 rfl Tryz.ntmps34 Tryz.results34 rfl ?_
 refine .sr (.s rfl (zT Tryz.zeroValue48 (zr48)) ?_)
 rintro _ _ ⟨b6, hb6, rfl, hH⟩
 obtain rfl := hH.symm
 refine .p rfl (zB zE) (.ng (.seq (.sr (.mv rfl rfl (.cl rfl Tryz.call67 (evs1 rfl) (alE ds hd _) (.p rfl (qY (tm rfl)) (.ng ?_)))))))
 refine AWP.cond_false (tm rfl) (by rfl) ?_
 refine .skip ?_
 refine Next.go ?_
 refine .sr (.mv rfl rfl (.cl rfl Tryz.call68 (.cons (tm rfl) (.cons (zS rfl) .nil)) (trimLeftA 48 (by decide) _ _) (.as rfl rfl (.nr (.mv rfl rfl (.mv rfl rfl (.cl rfl Tryz.call69 (.cons (tm rfl) (.cons (zS rfl) .nil)) (trimRightA 48 (by decide) _ _) (.p rfl (yN [(0, 1), (1, 1), (2, 1)] Tryz.underlying48 Tryz.zeroValue48 (zr48) rfl (pl48 _ Tryz.underlying48) (.cons (tm rfl) (.inl rfl) (.cons (tm rfl) (.inl rfl) .nil)) rfl) ?_))))))))
 refine .s rfl (zT Tryz.zeroValue48 (zr48)) ?_
 rintro _ _ ⟨b9, hb9, rfl, hH⟩
 obtain rfl := hH.symm
 have hn6_9 := Heap.ne_of (Heap.objs_set_same _ _ _) hb9
 refine .e0 (zH Tryz.sizeOf48 (tm rfl) (tm rfl) rfl rfl (.inr ⟨_, rfl⟩) (Heap.objs_set_same _ _ _) (Nat.le_of_ble_eq_true rfl)) ?_
 try first | rw [Heap.set_set] | rw [Heap.set_under (by assumption)]
 refine .ng (.seq (.sr (.p rfl (yB Tryz.underlying48 rfl Tryz.sizeOf9 (tm rfl)) (.e rfl (yO Tryz.isAgg9 (tm rfl) (Heap.objs_set_same _ _ _) rfl) (.p rfl (qK (tm rfl) (zS rfl)) (.ng ?_))))))
 refine AWP.cond (tm rfl) (fun hc22 => ?_) (fun hc22 => ?_)
 ·try simp only [decide_eq_true_eq] at hc22
  refine .sr (.e rfl (yG Tryz.isAgg48 Tryz.sizeOf48 (tm rfl) (Heap.objs_set_same _ _ _) (Nat.le_of_ble_eq_true rfl)) (.e0 (zH Tryz.sizeOf48 (tm rfl) (tm rfl) rfl rfl (.inr ⟨_, rfl⟩) ((Heap.objs_set_ne _ _ (by assumption)).trans (Heap.objs_set_same _ _ _)) (Nat.le_of_ble_eq_true rfl)) ?_))
  try first | rw [Heap.set_set] | rw [Heap.set_under (by assumption)]
  refine .p rfl (zB zE) (.ng ?_)
  refine AWP.dropb (Heap.fresh_set hb9 _) ?_
  refine AWP.frz (t := 6) rfl (hb6) ?_
  refine .ret ?_
  refine Next.rt ?_
  refine Ret.go (.cons (.cellI _ _ _ _ rfl Tryz.isAgg48 Tryz.sizeOf48 rfl) (.cons (.tmp _ _ rfl) .nil)) _ (Heap.le.refl _) ?_
  refine ⟨?_, rfl⟩
  unfold mkN
  rw [if_pos (show acV ds = [] from hc22)]
  rw [show ds.dropWhile (· == 48) = arH ds from rfl, show Lib.trimRightB (arH ds) 48 = acV ds from rfl, show acV ds = [] from hc22]; rfl
 ·try simp only [decide_eq_false_iff_not] at hc22
  refine .skip ?_
  refine Next.go ?_
  refine .seq (.sr (.mv rfl rfl (.p rfl (yB Tryz.underlying48 rfl Tryz.sizeOf3 (tm rfl)) (.e0 (zH Tryz.sizeOf3 (tm rfl) (tm rfl) rfl rfl (.inl rfl) (Heap.objs_set_same _ _ _) (Nat.le_of_ble_eq_true rfl)) ?_))))
  try first | rw [Heap.set_set] | rw [Heap.set_under (by assumption)]
  refine .nr (.mv rfl rfl (.mv rfl rfl (.p rfl (zR (tm rfl) zE (by omega)) (.p rfl (abB (tm rfl) (by omega)) (.p rfl (abX (tm rfl) (tm rfl)) (.p rfl (zY (tm rfl) zE) (.ng ?_)))))))
  refine AWP.cond_true (tm rfl) (by exact decide_eq_true (by simp only [auK]; split <;> omega)) ?_
  refine .region (.p rfl (yB Tryz.underlying48 rfl Tryz.sizeOf3 (tm rfl)) (.e rfl (yO Tryz.isAgg3 (tm rfl) (Heap.objs_set_same _ _ _) rfl) (.mv rfl rfl (.p rfl (yJ Tryz.underlying9 (tm rfl)) (.p rfl (yB Tryz.underlying48 rfl Tryz.sizeOf9 (tm rfl)) (.e rfl (yO Tryz.isAgg9 (tm rfl) (Heap.objs_set_same _ _ _) rfl) (.p rfl (yJ Tryz.underlying9 (tm rfl)) (.p rfl (zZ (tm rfl) (tm rfl) (by omega)) ?_))))))))
  refine .p rfl (zR (tm rfl) (tm rfl) (by omega)) (.p rfl (yB Tryz.underlying48 rfl Tryz.sizeOf3 (tm rfl)) (.e0 (zH Tryz.sizeOf3 (tm rfl) (tm rfl) rfl rfl (.inl rfl) (Heap.objs_set_same _ _ _) (Nat.le_of_ble_eq_true rfl)) ?_))
  try first | rw [Heap.set_set] | rw [Heap.set_under (by assumption)]
  refine .ng (.seq (.seq ?_))
  rw [hmo]
  refine .region (.e rfl (yG Tryz.isAgg48 Tryz.sizeOf48 (tm rfl) (Heap.objs_set_same _ _ _) (Nat.le_of_ble_eq_true rfl)) (.cl rfl Tryz.call60 (evs1 rfl) (acL neg _ _ hdc _) (.p rfl (qY (tm rfl)) (.ng ?_))))
  refine AWP.cond (tm rfl) (fun hc44 => ?_) (fun hc44 => ?_)
  ·try simp only [Bool.not_eq_true'] at hc44
   refine .sr (.p rfl (yN [(0, 1), (1, 1), (2, 1)] Tryz.underlying48 Tryz.zeroValue48 (zr48) rfl (pl48 _ Tryz.underlying48) .nil rfl) (.e0 (zH Tryz.sizeOf48 (tm rfl) (tm rfl) rfl rfl (.inr ⟨_, rfl⟩) ((Heap.objs_set_ne _ _ (by assumption)).trans (Heap.objs_set_same _ _ _)) (Nat.le_of_ble_eq_true rfl)) ?_))
   try first | rw [Heap.set_set] | rw [Heap.set_under (by assumption)]
   refine .p rfl (zB zE) (.ng ?_)
   refine AWP.dropb (hb9) ?_
   refine AWP.frz (t := 6) rfl (hb6) ?_
   refine .ret ?_
   refine Next.rt ?_
   refine Ret.go (.cons (.cellI _ _ _ _ rfl Tryz.isAgg48 Tryz.sizeOf48 rfl) (.cons (.tmp _ _ rfl) .nil)) _ (Heap.le.refl _) ?_
   refine ⟨?_, rfl⟩
   have hr : qG (acV ds) (e + amL ds) = false := by first | exact hc44 | exact (Bool.not_eq_false _).mp hc44 | (simp only [Bool.not_eq_true, Bool.not_eq_false] at hc44; exact hc44)
   rw [aiN hd hc22] at hr
   unfold mkN
   rw [if_neg (show ¬ acV ds = [] from hc22), if_neg (by rintro ⟨q1, q2, q3⟩; simp [q1, q2, q3] at hr)]; rfl
  ·try simp only [Bool.not_eq_false'] at hc44
   refine .skip ?_
   refine Next.go ?_
   refine .sr (.e rfl (yG Tryz.isAgg48 Tryz.sizeOf48 (tm rfl) (Heap.objs_set_same _ _ _) (Nat.le_of_ble_eq_true rfl)) (.e0 (zH Tryz.sizeOf48 (tm rfl) (tm rfl) rfl rfl (.inr ⟨_, rfl⟩) ((Heap.objs_set_ne _ _ (by assumption)).trans (Heap.objs_set_same _ _ _)) (Nat.le_of_ble_eq_true rfl)) ?_))
   try first | rw [Heap.set_set] | rw [Heap.set_under (by assumption)]
   refine .p rfl (zB zE) (.ng ?_)
   refine AWP.dropb (Heap.fresh_set hb9 _) ?_
   refine AWP.frz (t := 6) rfl (hb6) ?_
   refine .ret ?_
   refine Ret.go (.cons (.cellI _ _ _ _ rfl Tryz.isAgg48 Tryz.sizeOf48 rfl) (.cons (.tmp _ _ rfl) .nil)) _ (Heap.le.refl _) ?_
   refine ⟨?_, rfl⟩
   have hr : qG (acV ds) (e + amL ds) = true := by first | exact hc44 | exact (Bool.not_eq_false _).mp hc44 | (simp only [Bool.not_eq_true, Bool.not_eq_false] at hc44; exact hc44)
   rw [aiN hd hc22] at hr
   simp only [Bool.and_eq_true, decide_eq_true_eq] at hr
   unfold mkN
   rw [if_neg (show ¬ acV ds = [] from hc22), if_pos ⟨hr.1.1, hr.1.2, hr.2⟩]; rfl
def upB (rest : List UInt8) : Bool := decide (53 ≤ (rest.getD 0 0).toNat)
theorem cmp5 {rest : List UInt8} (h : rest ≠ []) : (0 : Int) ≤ Lib.compareBytes rest [53] ↔ 53 ≤ (rest.getD 0 0).toNat := by
 cases rest with
 | nil => exact absurd rfl h
 | cons x r =>
  unfold Lib.compareBytes
  simp only [List.getD_cons_zero]
  have hx : x < 53 ↔ x.toNat < 53 := UInt8.lt_iff_toNat_lt
  have hy : 53 < x ↔ 53 < x.toNat := UInt8.lt_iff_toNat_lt
  split
  ·rename_i h1; have := hx.1 h1; omega
  ·rename_i h1
   have h1' : ¬ x.toNat < 53 := fun q => h1 (hx.2 q)
   split
   ·omega
   ·cases r with
    | nil => unfold Lib.compareBytes; omega
    | cons y r => unfold Lib.compareBytes; omega
def incD (s : List UInt8) : List UInt8 :=
 if Lib.trimRightB s 57 = [] then 49 :: List.replicate s.length 48
 else (Lib.trimRightB s 57).take ((Lib.trimRightB s 57).length - 1) ++ [UInt8.ofNat (((Lib.trimRightB s 57).getD ((Lib.trimRightB s 57).length - 1) 0).toNat + 1)] ++ List.replicate (s.length - (Lib.trimRightB s 57).length) 48
def cutD (neg : Bool) (ds : List UInt8) (e : Int) (n : Nat) : (Bool × List UInt8 × Int) × Int := mkN neg (if upB (ds.drop n) = true then incD (ds.take n) else ds.take n) (e + ds.length - n)
def sigD (neg : Bool) (ds : List UInt8) (e : Int) (n : Nat) : (Bool × List UInt8 × Int) × Int := if ds.length ≤ n then ((neg, ds, e), 0) else cutD neg ds e n
theorem Digs.app {a b : List UInt8} (h : Digs a) (k : Digs b) : Digs (a ++ b) := fun x hx => by
 rcases List.mem_append.1 hx with h1 | h1
 ·exact h x h1
 ·exact k x h1
theorem Digs.rep {n : Nat} {x : UInt8} (h : isD x) : Digs (List.replicate n x) := fun y hy => by rw [List.eq_of_mem_replicate hy]; exact h
theorem Digs.one {x : UInt8} (h : isD x) : Digs [x] := fun y hy => by rw [List.mem_singleton.1 hy]; exact h
theorem last_9 {s : List UInt8} (hd : Digs s) (h : Lib.trimRightB s 57 ≠ []) : 48 ≤ ((Lib.trimRightB s 57).getD ((Lib.trimRightB s 57).length - 1) 0).toNat ∧ ((Lib.trimRightB s 57).getD ((Lib.trimRightB s 57).length - 1) 0).toNat < 57 := by
 have hp := List.length_pos_iff.2 h
 have h1 := (hd.trimR 57).at (p := (Lib.trimRightB s 57).length - 1) (by omega)
 have h2 := amR h
 refine ⟨h1.1, ?_⟩
 rcases Nat.lt_or_ge ((Lib.trimRightB s 57).getD ((Lib.trimRightB s 57).length - 1) 0).toNat 57 with q | q
 ·exact q
 ·exact absurd (UInt8.toNat_inj.1 (show _ = (57 : UInt8).toNat by simp only [UInt8.reduceToNat]; omega)) h2
theorem arN {s : List UInt8} (hd : Digs s) : Digs (incD s) := by
 unfold incD
 split
 ·exact Digs.app (a := [49]) (Digs.one (by unfold isD; decide)) (Digs.rep (by unfold isD; decide))
 ·rename_i h
  obtain ⟨h1, h2⟩ := last_9 hd h
  refine Digs.app (Digs.app ((hd.trimR 57).take _) (Digs.one ?_)) (Digs.rep (by unfold isD; decide))
  unfold isD
  rw [UInt8.toNat_ofNat']
  omega
theorem awP (s : List UInt8) : (incD s).length ≤ s.length + 1 := by
 unfold incD
 have := agX s 57
 split
 ·simp
 ·rename_i h
  have hp := List.length_pos_iff.2 h
  simp only [List.length_append, List.length_take, List.length_replicate, List.length_cons, List.length_nil]; omega

set_option maxRecDepth 100000 in
theorem bbG (neg : Bool) (kept rest : List UInt8) (hr : rest ≠ []) (H : Heap) : ACall Tryz.prog 168 [.bool neg, .str kept, .str rest, .int .i64 1] H (fun y H' => y = .bool (upB rest) ∧ H' = H) := by
 refine ACall.of_body Tryz.func168 rfl Tryz.ntmps168 Tryz.results168 rfl ?_
 refine .sr (.p rfl (zB zK) (.ng (.seq (.sr (.mv rfl rfl (.p rfl (qK (tm rfl) (zS rfl)) (.ng ?_)))))))
 refine AWP.cond_false (tm rfl) (by exact decide_eq_false hr) ?_
 refine .skip ?_
 refine Next.go ?_
 refine .sr (.mv rfl rfl (.cl rfl Tryz.call212 (.cons (tm rfl) (.cons (zS rfl) .nil)) (compareA rest [53] _) (.as rfl rfl (.ng (.seq (.sr (.mv rfl rfl (.ng ?_))))))))
 refine .block (.sr (.p rfl (yA (tm rfl) zE) (.as rfl rfl (.ng ?_))))
 refine AWP.cond_false (tm rfl) (by rfl) ?_
 refine .sr (.p rfl (yA (tm rfl) zE) (.as rfl rfl (.ng ?_)))
 refine AWP.cond_true (tm rfl) (by rfl) ?_
 refine .sr (.mv rfl rfl (.p rfl (qH (tm rfl) zE) (.as rfl rfl (.ng (.ret ?_)))))
 refine Block.rt ?_
 refine Next.rt ?_
 refine Ret.go (.cons (.tmp _ _ rfl) .nil) _ (Heap.le.refl _) ?_
 refine ⟨?_, rfl⟩
 simp only [yZ, upB]
 congr 1
 exact decide_eq_decide.2 (cmp5 hr)

set_option maxRecDepth 100000 in
theorem azF (s : List UInt8) (hd : Digs s) (hl : s.length ≤ 100000) (H : Heap) : ACall Tryz.prog 169 [.str s] H (fun y H' => y = .str (incD s) ∧ H' = H) := by
 have htl := agX s 57
 have hml := zX
 refine ACall.of_body Tryz.func169 rfl Tryz.ntmps169 Tryz.results169 rfl ?_
 refine .sr (.p rfl (zB (zS rfl)) (.nr (.mv rfl rfl (.cl rfl Tryz.call69 (.cons (tm rfl) (.cons (zS rfl) .nil)) (trimRightA 57 (by decide) s _) (.as rfl rfl (.nr (.mv rfl rfl (.p rfl (yJ Tryz.underlying9 (tm rfl)) ?_))))))))
 refine .mv rfl rfl (.p rfl (yJ Tryz.underlying9 (tm rfl)) (.p rfl (zZ (tm rfl) (tm rfl) (by omega)) (.cl rfl Tryz.call93 (.cons (zS rfl) (evs1 rfl)) (repeatZ 48 _ (s.length - (Lib.trimRightB s 57).length) (by omega) (by omega) _) (.as rfl rfl (.ng (.seq (.sr (.mv rfl rfl ?_))))))))
 refine .p rfl (qK (tm rfl) (zS rfl)) (.ng ?_)
 refine AWP.cond (tm rfl) (fun hc14 => ?_) (fun hc14 => ?_)
 ·try simp only [decide_eq_true_eq] at hc14
  refine .sr (.mv rfl rfl (.p rfl (yK (zS rfl) (tm rfl) (by rw [zX, List.length_replicate]; simp only [List.length_cons, List.length_nil]; omega)) (.as rfl rfl (.ng (.ret ?_)))))
  refine Next.rt ?_
  refine Ret.go (.cons (.tmp _ _ rfl) .nil) _ (Heap.le.refl _) ?_
  refine ⟨?_, rfl⟩
  unfold incD
  rw [if_pos hc14, hc14]; rfl
 ·try simp only [decide_eq_false_iff_not] at hc14
  have htp := List.length_pos_iff.2 hc14
  obtain ⟨h91, h92⟩ := last_9 hd hc14
  have htn : (((Lib.trimRightB s 57).length : Int) - 1).toNat = (Lib.trimRightB s 57).length - 1 := by omega
  rw [← htn] at h91 h92
  refine .skip ?_
  refine Next.go ?_
  refine .seq ?_
  refine AWP.draw [(0, true), (1, true), (2, true), (3, true), (4, true), (5, true), (6, true), (7, true), (8, true), (9, true), (10, true), (11, true), (12, true), (13, true), (14, true), (15, true)] rfl (by decide +kernel) ?_
  refine .p rfl rfl (zC (tm rfl)) (.p rfl rfl (zC (tm rfl)) (.p rfl rfl (yJ Tryz.underlying9 (tm rfl)) (.p rfl rfl (zZ (tm rfl) zE (by omega)) (.p rfl rfl (aaV Tryz.underlying9 (tm rfl) (tm rfl) (by omega) (by omega)) (.p rfl rfl (zC (tm rfl)) (.p rfl rfl (zC (tm rfl)) (.p rfl rfl (yJ Tryz.underlying9 (tm rfl)) (.p rfl rfl (zZ (tm rfl) zE (by omega)) ?_))))))))
  refine .p rfl rfl (aaS Tryz.underlying9 (tm rfl) (tm rfl) (by omega) (by omega)) (.p rfl rfl (ayV (tm rfl) (zJ 1) (by omega)) (.p rfl rfl (aqY Tryz.underlying5 Tryz.underlying9 (tm rfl) (by omega)) (.p rfl rfl (yK (tm rfl) (tm rfl) (by rw [zX]; simp only [List.length_cons, List.length_nil, List.length_take]; omega)) (.p rfl rfl (zC (tm rfl)) (.p rfl rfl (yK (tm rfl) (tm rfl) (by rw [zX]; simp only [List.length_append, List.length_replicate, List.length_cons, List.length_nil, List.length_take]; omega)) (.p rfl rfl (zB (tm rfl)) (.nil ?_)))))))
  refine Next.go ?_
  refine .ret ?_
  refine Ret.go (.cons (.tmp _ _ rfl) .nil) _ (Heap.le.refl _) ?_
  refine ⟨?_, rfl⟩
  unfold incD
  rw [if_neg hc14, ← htn]; rfl

set_option maxRecDepth 100000 in
theorem baI (neg : Bool) (ds : List UInt8) (e : Int) (n : Nat) (hd : Digs ds) (hn : 0 < n) (hn2 : n < ds.length) (hl : ds.length ≤ 2000) (he : -200000 ≤ e ∧ e ≤ 200000) (H : Heap) : ACall Tryz.prog 123 [dA neg ds e, .int .i64 (n : Int), .int .i64 1] H (fun y H' => y = dT (cutD neg ds e n) ∧ H' = H) := by
 have hdn : ds.drop n ≠ [] := by intro h; have := congrArg List.length h; simp at this; omega
 have hil := awP (ds.take n)
 rw [List.length_take] at hil
 have hml := zX
 refine ACall.of_body Tryz.func123 rfl Tryz.ntmps123 Tryz.results123 rfl ?_
 refine .sr (.e rfl (yR (tm rfl) (.inr ⟨_, rfl⟩)) (.s rfl (zT Tryz.zeroValue48 (zr48)) ?_))
 rintro _ _ ⟨b6, hb6, rfl, hH⟩
 obtain rfl := hH.symm
 refine .p rfl (zB zE) (.nr (.p rfl (zG Tryz.underlying48 rfl Tryz.sizeOf3 (tm rfl)) (.p rfl (zF Tryz.isAgg3 (tm rfl)) (.p rfl (zG Tryz.underlying48 rfl Tryz.sizeOf9 (tm rfl)) (.p rfl (zF Tryz.isAgg9 (tm rfl)) (.p rfl (yJ Tryz.underlying9 (tm rfl)) (.p rfl (zR (tm rfl) (tm rfl) (by omega)) (.mv rfl rfl ?_))))))))
 refine .p rfl (zZ (tm rfl) (tm rfl) (by omega)) (.as rfl rfl (.ng (.seq ?_)))
 refine AWP.draw [(0, true), (1, true), (2, true), (3, true), (5, true), (6, true), (4, false), (7, true), (8, true), (9, true)] rfl (by decide +kernel) ?_
 refine .p rfl rfl (zC (tm rfl)) (.p rfl rfl (abB (tm rfl) (by omega)) (.p rfl rfl (ahE (tm rfl) zE) (.p rfl rfl (abX zE (tm rfl)) (.p rfl rfl (zG Tryz.underlying48 rfl Tryz.sizeOf9 (tm rfl)) (.p rfl rfl (zF Tryz.isAgg9 (tm rfl)) (.s rfl rfl (zP Tryz.call93 (.cons (zS rfl) (evs1 rfl)) (repeatZ 48 _ 0 (by simp only [auK, imin]; split <;> split <;> omega) (by omega) _)) ?_))))))
 rintro _ _ ⟨rfl, hH⟩
 obtain rfl := hH.symm
 refine .p rfl rfl (yK (tm rfl) (tm rfl) (by rw [zX, List.length_replicate]; omega)) (.p rfl rfl (zB (zS rfl)) (.p rfl rfl (zB (tm rfl)) (.nil ?_)))
 refine Next.go ?_
 refine .seq (.sr (.mv rfl rfl (.p rfl (yF (tm rfl) zE) (.ng ?_))))
 refine AWP.cond_true (tm rfl) (by exact decide_eq_true (by omega)) ?_
 refine AWP.draw [(0, true), (1, true), (2, true), (3, true), (4, true), (5, true), (6, true), (7, true), (8, true), (9, true)] rfl (by decide +kernel) ?_
 refine .p rfl rfl (zG Tryz.underlying48 rfl Tryz.sizeOf9 (tm rfl)) (.p rfl rfl (zF Tryz.isAgg9 (tm rfl)) (.p rfl rfl (zC (tm rfl)) (.p rfl rfl (aaV Tryz.underlying9 (tm rfl) (tm rfl) (by omega) (by omega)) (.p rfl rfl (zG Tryz.underlying48 rfl Tryz.sizeOf9 (tm rfl)) (.p rfl rfl (zF Tryz.isAgg9 (tm rfl)) (.p rfl rfl (zC (tm rfl)) (.p rfl rfl (abK Tryz.underlying9 (tm rfl) (tm rfl) (by omega) (by omega)) (.p rfl rfl (zB (tm rfl)) ?_))))))))
 refine .p rfl rfl (zB (tm rfl)) (.nil ?_)
 refine Next.go ?_
 refine AWP.seqToL [(9, .str (if upB (ds.drop n) = true then incD (ds.take n) else ds.take n))] [3, 6, 7, 8] ?_ ?_
 ·refine .sr (.p rfl (zG Tryz.underlying48 rfl Tryz.sizeOf4 (tm rfl)) (.p rfl (zF Tryz.isAgg4 (tm rfl)) (.mv rfl rfl (.mv rfl rfl (.mv rfl rfl (.cl rfl Tryz.call168 (.cons (tm rfl) (evs3 rfl rfl rfl)) (bbG neg _ _ hdn _) (.ng ?_)))))))
  refine AWP.cond (tm rfl) (fun hc42 => ?_) (fun hc42 => ?_)
  ·try simp only [decide_eq_true_eq, decide_eq_false_iff_not, Bool.not_eq_true', Bool.not_eq_false', Int.not_lt, Int.not_le, ne_eq, Decidable.not_not] at hc42
   refine .region (.mv rfl rfl (.cl rfl Tryz.call169 (evs1 rfl) (azF (ds.take n) (hd.take n) (by rw [List.length_take]; omega) _) (.as rfl rfl (.nil ?_))))
   exact ⟨rfl, (yH rfl (by (rw [if_pos (show upB (ds.drop n) = true from hc42)]; done)) (zA rfl (zA rfl (zA rfl (zA rfl zL))))), rfl⟩
  ·try simp only [decide_eq_true_eq, decide_eq_false_iff_not, Bool.not_eq_true', Bool.not_eq_false', Int.not_lt, Int.not_le, ne_eq, Decidable.not_not] at hc42
   refine .skip ?_
   exact ⟨rfl, (yH rfl (by (rw [if_neg (show ¬ upB (ds.drop n) = true from by first | exact hc42 | (intro q; rw [show upB (ds.drop n) = false from hc42] at q; cases q))]; rfl)) (zA rfl (zA rfl (zA rfl (zA rfl zL))))), rfl⟩
 ·refine AWP.sub [(9, _), (3, _), (6, _), (7, _), (8, _)] (zA rfl (zA rfl (zA rfl (zA rfl (zA rfl zL))))) ?_
  refine .sr (.p rfl (zG Tryz.underlying48 rfl Tryz.sizeOf4 (tm rfl)) (.p rfl (zF Tryz.isAgg4 (tm rfl)) (.mv rfl rfl (.mv rfl rfl ?_))))
  refine .cl rfl Tryz.call34 (evs3 rfl rfl rfl) (aiR neg (if upB (ds.drop n) = true then incD (ds.take n) else ds.take n) _ (by split; exact arN (hd.take n); exact hd.take n) (by split; omega; rw [List.length_take]; omega) (by constructor <;> omega) _) ?_
  refine .p rfl (zD (tm rfl) rfl) (.p rfl (zD (tm rfl) rfl) (.e0 (zH Tryz.sizeOf48 (tm rfl) (tm rfl) rfl rfl (.inr ⟨_, rfl⟩) (Heap.objs_set_same _ _ _) (Nat.le_of_ble_eq_true rfl)) ?_))
  try first | rw [Heap.set_set] | rw [Heap.set_under (by assumption)]
  refine .as rfl rfl (.ng ?_)
  refine AWP.frz (t := 6) rfl (hb6) ?_
  refine .ret ?_
  refine Ret.go (.cons (.cellI _ _ _ _ rfl Tryz.isAgg48 Tryz.sizeOf48 rfl) (.cons (.tmp _ _ rfl) .nil)) _ (Heap.le.refl _) ?_
  refine ⟨?_, rfl⟩
  rfl

set_option maxRecDepth 100000 in
theorem bfN (neg : Bool) (ds : List UInt8) (e : Int) (n : Nat) (hr : qG ds e = true) (hn : 0 < n) (hn2 : n ≤ 100000) (H : Heap) : ACall Tryz.prog 76 [dA neg ds e, .int .i64 (n : Int), .int .i64 1] H (fun y H' => y = dT (sigD neg ds e n) ∧ H' = H) := by
 have hk1 : (!qG ds e) = false := by rw [hr]; rfl
 have hrl := aaQ hr
 have hdd := qP hr
 refine ACall.of_body Tryz.func76 rfl Tryz.ntmps76 Tryz.results76 rfl ?_
 refine .sr (.e rfl (yR (tm rfl) (.inr ⟨_, rfl⟩)) (.s rfl (zT Tryz.zeroValue48 (zr48)) ?_))
 rintro _ _ ⟨b6, hb6, rfl, hH⟩
 obtain rfl := hH.symm
 refine .p rfl (zB zE) (.ng (.seq (.block (.sr (.p rfl (zU Tryz.isAgg48 Tryz.sizeOf48 (tm rfl) (Nat.le_of_ble_eq_true rfl)) (.cl rfl Tryz.call60 (evs1 rfl) (acL neg ds e hdd _) (.p rfl (qY (tm rfl)) (.mv rfl rfl ?_))))))))
 refine .gp rfl rfl rfl (by assumption) (zC (tm rfl)) (.gp rfl rfl rfl (by assumption) (zY (tm rfl) zE) (.p rfl (zM (tm rfl) (by assumption) (tm rfl)) (.mv rfl rfl (.gp rfl rfl rfl (by rfl) (zC (tm rfl)) (.gp rfl rfl rfl (by rfl) (yF (tm rfl) zE) (.p rfl (zM (tm rfl) (by rfl) (tm rfl)) (.mv rfl rfl (.gp rfl rfl rfl (by rfl) (zC (tm rfl)) ?_))))))))
 refine .gp rfl rfl rfl (by rfl) (zY (tm rfl) zE) (.p rfl (zM (tm rfl) (by rfl) (tm rfl)) (.as rfl rfl (.ng ?_)))
 refine AWP.cond_false (tm rfl) (by exact decide_eq_false (by omega)) ?_
 refine .sr (.mv rfl rfl (.p rfl (zG Tryz.underlying48 rfl Tryz.sizeOf9 (tm rfl)) (.p rfl (zF Tryz.isAgg9 (tm rfl)) (.p rfl (yJ Tryz.underlying9 (tm rfl)) (.p rfl (qH (tm rfl) (tm rfl)) (.as rfl rfl (.ng ?_)))))))
 refine AWP.cond (tm rfl) (fun hc25 => ?_) (fun hc25 => ?_)
 ·try simp only [decide_eq_true_eq] at hc25
  refine .sr (.p rfl (zU Tryz.isAgg48 Tryz.sizeOf48 (tm rfl) (Nat.le_of_ble_eq_true rfl)) (.e0 (zH Tryz.sizeOf48 (tm rfl) (tm rfl) rfl rfl (.inr ⟨_, rfl⟩) (Heap.objs_set_same _ _ _) (Nat.le_of_ble_eq_true rfl)) ?_))
  try first | rw [Heap.set_set] | rw [Heap.set_under (by assumption)]
  refine .p rfl (zB zE) (.ng ?_)
  refine AWP.frz (t := 6) rfl (hb6) ?_
  refine .ret ?_
  refine Block.rt ?_
  refine Next.rt ?_
  refine Ret.go (.cons (.cellI _ _ _ _ rfl Tryz.isAgg48 Tryz.sizeOf48 rfl) (.cons (.tmp _ _ rfl) .nil)) _ (Heap.le.refl _) ?_
  refine ⟨?_, rfl⟩
  unfold sigD
  rw [if_pos (by omega)]; rfl
 ·try simp only [decide_eq_false_iff_not, Int.not_le] at hc25
  refine .skip ?_
  refine Block.go ?_
  refine Next.go ?_
  refine .sr (.p rfl (zU Tryz.isAgg48 Tryz.sizeOf48 (tm rfl) (Nat.le_of_ble_eq_true rfl)) (.mv rfl rfl (.mv rfl rfl (.cl rfl Tryz.call123 (evs3 rfl rfl rfl) (baI neg ds e n hdd hn (by omega) (by omega) (by omega) _) (.p rfl (zD (tm rfl) rfl) (.p rfl (zD (tm rfl) rfl) (.e0 (zH Tryz.sizeOf48 (tm rfl) (tm rfl) rfl rfl (.inr ⟨_, rfl⟩) (Heap.objs_set_same _ _ _) (Nat.le_of_ble_eq_true rfl)) ?_)))))))
  try first | rw [Heap.set_set] | rw [Heap.set_under (by assumption)]
  refine .as rfl rfl (.ng ?_)
  refine AWP.frz (t := 6) rfl (hb6) ?_
  refine .ret ?_
  refine Ret.go (.cons (.cellI _ _ _ _ rfl Tryz.isAgg48 Tryz.sizeOf48 rfl) (.cons (.tmp _ _ rfl) .nil)) _ (Heap.le.refl _) ?_
  refine ⟨?_, rfl⟩
  unfold sigD
  rw [if_neg (by omega)]; rfl

end Go.Proofs.YtfkeflcdadlmdaaGreatDoor
