import Derived.Test.YtfkeflcdadlmdaaGreatDoorYd
import Derived.Test.YtfkeflcdadlmdaaGreatDoorSsk
import Derived.Test.YtfkeflcdadlmdaaGreatDoorX1
import Derived.Test.YtfkeflcdadlmdaaGreatDoorR1
namespace Go.Proofs.YtfkeflcdadlmdaaGreatDoor
open Go Go.RowKit

theorem zr48 : ∀ g, RelCells g [.bool false, .str [], .int .i64 0] (Value.cells (Go.Value.agg #[Go.Value.bool false, Go.Value.string { data := #[] }, Go.Value.int Go.IntKind.i64 0])) := fun g => RelL.cells (.cons (.bool _) (.cons ((.str [] (Nat.zero_le _))) (.cons (.int _ _) .nil)))
theorem pl48 (fs : Array Field) (hfs : Tryz.prog.underlying 48 = some (.struct fs)) : ∀ (i : Nat) f p, fs[i]? = some f → [(0, 1), (1, 1), (2, 1)][i]? = some p → ∀ w, (sizeOf f.type).run Tryz.prog w = .ok p.2 w := by
 have e := (Option.some.inj (hfs.symm.trans Tryz.underlying48))
 cases e
 intro i f p hf hp w
 match i with
 | 0 => cases hf; cases hp; exact Tryz.sizeOf4 w
 | 1 => cases hf; cases hp; exact Tryz.sizeOf9 w
 | 2 => cases hf; cases hp; exact Tryz.sizeOf3 w
 | i + 3 => simp at hp

theorem bjJ {s : List UInt8} {p : Nat} (h : p < s.length) (ha : (s.getD p 0).toNat < 128) : Utf8.decode ⟨s.toArray⟩ p = ((s.getD p 0).toNat, 1) := by
 have hb : (⟨s.toArray⟩ : ByteArray).get! (p + 0) = s.getD p 0 := by
  rw [Nat.add_zero, List.getD_eq_getElem?_getD, List.getElem?_eq_getElem h]
  show s.toArray[p]! = _
  simp [h]
 unfold Utf8.decode
 simp only [hb]
 rw [if_pos ha]
theorem Digs.at {s : List UInt8} (hd : Digs s) {p : Nat} (h : p < s.length) : 48 ≤ (s.getD p 0).toNat ∧ (s.getD p 0).toNat ≤ 57 := by
 rw [List.getD_eq_getElem?_getD, List.getElem?_eq_getElem h]
 exact hd _ (List.getElem_mem h)
def digC (b : UInt8) : Bool := decide ((48 : Int) ≤ ((b.toNat : Nat) : Int)) && decide (((b.toNat : Nat) : Int) ≤ 57)
theorem bjI {ds : List UInt8} {i : Nat} (hi : i < ds.length) (h : aqC (ds.take i) = true) : aqC (ds.take (i + 1)) = digC (ds.getD i 0) := by
 unfold aqC at *
 rw [← List.take_append_getElem hi, List.all_append, h, List.getD_eq_getElem?_getD, List.getElem?_eq_getElem hi]
 simp only [List.all_cons, List.all_nil, Bool.and_true, Bool.true_and, digC, Option.getD_some]
 congr 1
 ·exact decide_eq_decide.2 (by omega)
 ·exact decide_eq_decide.2 (by omega)
theorem avB {ds : List UInt8} {i : Nat} (h : aqC ds = true) : aqC (ds.take i) = true := by
 unfold aqC at *
 rw [List.all_eq_true] at h ⊢
 exact fun x hx => h x (List.mem_of_mem_take hx)
theorem bfR {ds : List UInt8} (h : 0 < ds.length) : Lib.hasSuffix ds [48] = decide (ds.getD (ds.length - 1) 0 = 48) := by
 unfold Lib.hasSuffix
 have e : ds = ds.take (ds.length - 1) ++ [ds.getD (ds.length - 1) 0] := by
  have hl : ds.length - 1 < ds.length := by omega
  rw [List.getD_eq_getElem?_getD, List.getElem?_eq_getElem hl, Option.getD_some, List.take_append_getElem hl, List.take_of_length_le (by omega)]
 by_cases hq : ds.getD (ds.length - 1) 0 = 48
 ·rw [decide_eq_true hq]
  rw [hq] at e
  rw [List.isSuffixOf_iff_suffix]
  exact ⟨_, e.symm⟩
 ·rw [decide_eq_false hq]
  cases hs : [48].isSuffixOf ds with
  | false => rfl
  | true =>
   rw [List.isSuffixOf_iff_suffix] at hs
   obtain ⟨u, hu⟩ := hs
   exfalso; apply hq
   rw [← hu]; simp
theorem asG {b : UInt8} (k : Nat) (hk : k < 256) : decide (((b.toNat : Nat) : Int) = (k : Int)) = decide (b = UInt8.ofNat k) := by
 apply decide_eq_decide.2
 constructor
 ·intro h; apply UInt8.toNat_inj.1; rw [UInt8.toNat_ofNat']; omega
 ·intro h; rw [h, UInt8.toNat_ofNat']; omega
def amF (ds : List UInt8) (e : Int) : Bool := decide ((ds.length : Int) ≤ 1100) && decide (-100000 ≤ e) && decide (e ≤ 100000) && decide (((ds.getD 0 0).toNat : Int) ≠ 48) && !decide (((ds.getD (ds.length - 1) 0).toNat : Int) = 48)
theorem amE {ds : List UInt8} {e : Int} (h : ds ≠ []) : qF ds e = (amF ds e && aqC ds) := by
 unfold qF amF
 rw [if_neg h]
 have e1 := asG (b := ds.getD 0 0) 48 (by decide)
 have e2 := asG (b := ds.getD (ds.length - 1) 0) 48 (by decide)
 have e3 : decide ((ds.length : Int) ≤ 1100) = decide (ds.length ≤ 1100) := decide_eq_decide.2 (by omega)
 have e4 : decide (((ds.getD 0 0).toNat : Int) ≠ 48) = !decide (ds.getD 0 0 = UInt8.ofNat 48) := by rw [← e1]; exact decide_not
 rw [e3, e4, show decide (((ds.getD (ds.length - 1) 0).toNat : Int) = 48) = decide (ds.getD (ds.length - 1) 0 = UInt8.ofNat 48) from e2]
 show _ = (_ && _ && _ && !decide (ds.getD 0 0 = 48) && !decide (ds.getD (ds.length - 1) 0 = 48) && aqC ds)
 generalize decide (ds.length ≤ 1100) = a1
 generalize decide (-100000 ≤ e) = a2
 generalize decide (e ≤ 100000) = a3
 generalize aqC ds = a4
 generalize decide (ds.getD 0 0 = 48) = a5
 generalize decide (ds.getD (ds.length - 1) 0 = 48) = a6
 cases a1 <;> cases a2 <;> cases a3 <;> cases a4 <;> cases a5 <;> cases a6 <;> rfl

def bhB (s : List UInt8) (b : Nat) (H : Heap) : Nat → Env → Heap → Prop := fun k env H1 => ∃ p : Nat, p ≤ s.length ∧ env = [(6, .ptr (some ⟨b, 0, none⟩))] ∧ H1 = H.set b (.raw (.stringIter ⟨s.toArray⟩ p)) ∧ k = s.length - p

set_option maxRecDepth 100000 in
theorem amV (s : List UInt8) (hd : Digs s) (H : Heap) : ACall Tryz.prog 67 [.str s] H (fun y H' => y = .bool true ∧ H' = H) := by
 refine ACall.of_body Tryz.func67 rfl Tryz.ntmps67 Tryz.results67 rfl ?_
 iterate 9 refine AX ?_
 refine .s rfl (bcA Tryz.underlying9 (tm rfl)) ?_
 rintro _ _ ⟨b6, rfl, hb6, hH⟩
 obtain rfl := hH.symm
 iterate 3 refine AX ?_
 refine AWP.loopW (bhB s b6 H) (s.length) ⟨0, Nat.zero_le _, rfl, rfl, rfl⟩ (yC rfl yX) (Heap.le.refl _) ?_
 rintro _ _ _ ⟨p, hp, rfl, rfl, hk⟩
 iterate 2 refine AX ?_
 refine .s rfl (bfT (tm rfl) (Heap.objs_set_same _ _ _)) ?_
 rintro _ Hn ⟨q7, rfl, hn7, hm7⟩
 iterate 4 refine AX ?_
 refine AWP.cx rfl (fun hc8 => ?_) (fun hc8 => ?_)
 ·obtain ⟨rfl, rfl⟩ := hn7 (by omega)
  have hda := hd.at (show p < s.length by omega)
  rw [bjJ (by omega) (by omega)]
  iterate 9 refine AX ?_
  refine AWP.seqTo 15 (.bool (false)) [6] ?_ ?_
  ·-- region 4
   iterate 4 refine AX ?_
   refine zI (t := 12) rfl (fun hg12 => ?_) (fun hg12 => ?_)
   ·iterate 4 refine AX ?_
    exact ⟨rfl, zZ rfl (by (exfalso; have := of_decide_eq_true hg12; omega)) (yC rfl yX), rfl⟩
   ·iterate 4 refine AX ?_
    exact ⟨rfl, zZ rfl (by (congr 1; exact decide_eq_false (by omega))) (yC rfl yX), rfl⟩
  ·refine AWP.sub [(15, _), (6, _)] sX ?_
   refine AWP.cond_false (tm rfl) (by rfl) ?_
   iterate 3 refine AX ?_
   refine Round.mk (J := bhB s b6 H) ⟨p + 1, by omega, rfl, by rw [Heap.set_set], rfl⟩ (yC rfl yX) (Heap.le.refl _) (by omega)
 ·obtain ⟨rfl, rfl⟩ := hm7 (by omega)
  iterate 11 refine AX ?_
  refine Ret.go (.cons (.tmp _ _ rfl) .nil) _ (Heap.le_set hb6 _) ?_
  exact ⟨rfl, rfl⟩

set_option maxRecDepth 100000 in
theorem aeA (neg : Bool) (ds : List UInt8) (e : Int) (hd : Digs ds) (H : Heap) : ACall Tryz.prog 60 [dA neg ds e] H (fun y H' => y = .bool (qF ds e) ∧ H' = H) := by
 refine ACall.of_body Tryz.func60 rfl Tryz.ntmps60 Tryz.results60 rfl ?_
 refine .seq (.region (.e rfl (yF (tm rfl) (.inr ⟨_, rfl⟩)) (.p rfl (zC yN) (.nil ?_))))
 refine Next.go ?_
 refine .seq (.seq (.region (.p rfl (zA Tryz.underlying48 rfl Tryz.sizeOf9 (tm rfl)) (.p rfl (qJ Tryz.isAgg9 (tm rfl)) (.p rfl (amR (tm rfl) (zR rfl)) (.nil ?_))))))
 refine Next.go ?_
 refine AWP.cond (tm rfl) (fun hc5 => ?_) (fun hc5 => ?_)
 ·try simp only [decide_eq_true_eq] at hc5
  refine .seq (.region (.p rfl (zA Tryz.underlying48 rfl Tryz.sizeOf3 (tm rfl)) (.p rfl (qJ Tryz.isAgg3 (tm rfl)) (.p rfl (yR (tm rfl) zF) (.as rfl rfl (.nil ?_))))))
  refine Next.go ?_
  refine .ret ?_
  refine Next.rt ?_
  refine Ret.go (.cons (.tmp _ _ rfl) .nil) _ (Heap.le.refl _) ?_
  refine ⟨?_, rfl⟩
  unfold qF
  rw [if_pos hc5]; rfl
 ·try simp only [decide_eq_false_iff_not] at hc5
  have hlp : 0 < ds.length := List.length_pos_iff.2 hc5
  have hsuf := (bfR hlp).trans (asG (b := ds.getD (ds.length - 1) 0) 48 (by decide)).symm
  refine .skip ?_
  refine Next.go ?_
  refine AWP.seqTo 2 (.bool (decide ((ds.length : Int) ≤ 1100) && decide (-100000 ≤ e) && decide (e ≤ 100000) && true && decide (((ds.getD 0 0).toNat : Int) ≠ 48) && !(Lib.hasSuffix ds [48]))) [] ?_ ?_
  ·-- region 3
   refine .region (.p rfl (zA Tryz.underlying48 rfl Tryz.sizeOf9 (tm rfl)) (.p rfl (qJ Tryz.isAgg9 (tm rfl)) (.p rfl (ahS Tryz.underlying9 (tm rfl)) (.p rfl (arE (tm rfl) zF) (.mv rfl rfl ?_)))))
   refine zI (t := 13) rfl (fun hg13 => ?_) (fun hg13 => ?_)
   ·have hh13 := hg13; try simp only [decide_eq_true_eq] at hh13
    refine .gp rfl rfl rfl (by assumption) (zA Tryz.underlying48 rfl Tryz.sizeOf3 (tm rfl)) (.gp rfl rfl rfl (by assumption) (qJ Tryz.isAgg3 (tm rfl)) (.gp rfl rfl rfl (by assumption) (acT (tm rfl) zF) (.p rfl (adK (tm rfl) (by assumption) (tm rfl)) (.mv rfl rfl ?_))))
    refine zI (t := 18) rfl (fun hg18 => ?_) (fun hg18 => ?_)
    ·have hh18 := hg18; try simp only [decide_eq_true_eq] at hh18
     refine .gp rfl rfl rfl (by assumption) (zA Tryz.underlying48 rfl Tryz.sizeOf3 (tm rfl)) (.gp rfl rfl rfl (by assumption) (qJ Tryz.isAgg3 (tm rfl)) (.gp rfl rfl rfl (by assumption) (arE (tm rfl) zF) (.p rfl (adK (tm rfl) (by assumption) (tm rfl)) (.mv rfl rfl ?_))))
     refine zI (t := 23) rfl (fun hg23 => ?_) (fun hg23 => ?_)
     ·have hh23 := hg23; try simp only [decide_eq_true_eq] at hh23
      refine .gp rfl rfl rfl (by assumption) (zA Tryz.underlying48 rfl Tryz.sizeOf9 (tm rfl)) (.gp rfl rfl rfl (by assumption) (qJ Tryz.isAgg9 (tm rfl)) (.gs rfl rfl rfl (by assumption) (zH Tryz.call67 (evs1 rfl) (amV _ hd _)) ?_))
      rintro _ _ ⟨rfl, hH⟩
      obtain rfl := hH.symm
      refine .p rfl (adK (tm rfl) (by assumption) (tm rfl)) (.mv rfl rfl ?_)
      refine zI (t := 28) rfl (fun hg28 => ?_) (fun hg28 => ?_)
      ·have hh28 := hg28; try simp only [] at hh28
       refine .gp rfl rfl rfl (by rfl) (zA Tryz.underlying48 rfl Tryz.sizeOf9 (tm rfl)) (.gp rfl rfl rfl (by rfl) (qJ Tryz.isAgg9 (tm rfl)) (.gp rfl rfl rfl (by rfl) (yH Tryz.underlying9 (tm rfl) zF (by omega) (by omega)) (.gp rfl rfl rfl (by rfl) (akX (tm rfl) zF) (.p rfl (adK (tm rfl) (by rfl) (tm rfl)) (.mv rfl rfl ?_)))))
       refine zI (t := 34) rfl (fun hg34 => ?_) (fun hg34 => ?_)
       ·have hh34 := hg34; try simp only [decide_eq_true_eq, ne_eq] at hh34
        refine .gp rfl rfl rfl (by assumption) (zA Tryz.underlying48 rfl Tryz.sizeOf9 (tm rfl)) (.gp rfl rfl rfl (by assumption) (qJ Tryz.isAgg9 (tm rfl)) (.gs rfl rfl rfl (by assumption) (zH Tryz.call94 (.cons (tm rfl) (.cons (zR rfl) .nil)) (hasSuffixA _ _ _)) ?_))
        rintro _ _ ⟨rfl, hH⟩
        obtain rfl := hH.symm
        refine .gp rfl rfl rfl (by assumption) (azT (tm rfl)) (.p rfl (adK (tm rfl) (by assumption) (tm rfl)) (.as rfl rfl (.nil ?_)))
        exact ⟨rfl, zZ rfl (by simp_all) yX, rfl⟩
       ·have hh34 := hg34; try simp only [decide_eq_false_iff_not, ne_eq, Decidable.not_not] at hh34
        refine .gn rfl rfl rfl (by assumption) (.gn rfl rfl rfl (by assumption) (.gn rfl rfl rfl (by assumption) (.gn rfl rfl rfl (by assumption) (.p rfl (agO (tm rfl) (by assumption) yN) (.as rfl rfl (.nil ?_))))))
        exact ⟨rfl, zZ rfl (by simp_all) yX, rfl⟩
      ·have hh28 := hg28; try simp only [decide_eq_true_eq, decide_eq_false_iff_not, Bool.not_eq_true', Bool.not_eq_false', Int.not_lt, Int.not_le, ne_eq, Decidable.not_not] at hh28
       refine .gn rfl rfl rfl (by assumption) (.gn rfl rfl rfl (by assumption) (.gn rfl rfl rfl (by assumption) (.gn rfl rfl rfl (by assumption) (.p rfl (agO (tm rfl) (by assumption) yN) (.mv rfl rfl (.gn rfl rfl rfl (by rfl) (.gn rfl rfl rfl (by rfl) (.gn rfl rfl rfl (by rfl) ?_))))))))
       refine .gn rfl rfl rfl (by rfl) (.p rfl (agO (tm rfl) (by rfl) yN) (.as rfl rfl ?_))
       refine AX ?_
       exact ⟨rfl, zZ rfl (by (simp [*]; done)) yX, rfl⟩
     ·have hh23 := hg23; try simp only [decide_eq_false_iff_not, Int.not_le] at hh23
      iterate 18 refine AX ?_
      exact ⟨rfl, zZ rfl (by (simp [*]; done)) yX, rfl⟩
    ·have hh18 := hg18; try simp only [decide_eq_false_iff_not, Int.not_le] at hh18
     iterate 23 refine AX ?_
     exact ⟨rfl, zZ rfl (by (simp [*]; done)) yX, rfl⟩
   ·have hh13 := hg13; try simp only [decide_eq_false_iff_not, Int.not_le] at hh13
    iterate 28 refine AX ?_
    exact ⟨rfl, zZ rfl (by (simp [*]; done)) yX, rfl⟩
  ·refine AWP.sub [(2, _)] (yC rfl yX) ?_
   refine AX ?_
   refine Ret.go (.cons (.tmp _ _ rfl) .nil) _ (Heap.le.refl _) ?_
   refine ⟨?_, rfl⟩
   simp only [yP]
   rw [amE hc5, acW.2 hd, hsuf, Bool.and_true, Bool.and_true]; rfl

def afM (ds : List UInt8) (e : Int) : Int := if qF ds e then (ds.length : Int) + e else 0
theorem bcM (ds : List UInt8) (e : Int) : (decide ((1100 : Int) < (ds.length : Int)) || decide (e < -100000) || decide ((100000 : Int) < e) || decide (((ds.getD 0 0).toNat : Int) = 48) || decide (((ds.getD (ds.length - 1) 0).toNat : Int) = 48)) = !amF ds e := by
 unfold amF
 rw [show decide ((1100 : Int) < (ds.length : Int)) = !decide ((ds.length : Int) ≤ 1100) by rw [← decide_not]; exact decide_eq_decide.2 (by omega),
   show decide (e < -100000) = !decide (-100000 ≤ e) by rw [← decide_not]; exact decide_eq_decide.2 (by omega), show decide ((100000 : Int) < e) = !decide (e ≤ 100000) by rw [← decide_not]; exact decide_eq_decide.2 (by omega),
   show decide (((ds.getD 0 0).toNat : Int) ≠ 48) = !decide (((ds.getD 0 0).toNat : Int) = 48) from decide_not]
 generalize decide ((ds.length : Int) ≤ 1100) = a1
 generalize decide (-100000 ≤ e) = a2
 generalize decide (e ≤ 100000) = a3
 generalize decide (((ds.getD 0 0).toNat : Int) = 48) = a5
 generalize decide (((ds.getD (ds.length - 1) 0).toNat : Int) = 48) = a6
 cases a1 <;> cases a2 <;> cases a3 <;> cases a5 <;> cases a6 <;> rfl

set_option maxRecDepth 100000 in
theorem aiB (neg : Bool) (ds : List UInt8) (e : Int) (hd : Digs ds) (H : Heap) : ACall Tryz.prog 43 [dA neg ds e] H (fun y H' => y = .int .i64 (afM ds e) ∧ H' = H) := by
 refine ACall.of_body Tryz.func43 rfl Tryz.ntmps43 Tryz.results43 rfl ?_
 iterate 2 refine AX ?_
 refine .e rfl (yF (tm rfl) (.inr ⟨_, rfl⟩)) ?_
 iterate 7 refine AX ?_
 refine .cl rfl Tryz.call60 (evs1 rfl) (aeA neg ds e hd _) ?_
 iterate 3 refine AX ?_
 refine AWP.cx rfl (fun hc5 => ?_) (fun hc5 => ?_)
 ·iterate 7 refine AX ?_
  refine Ret.go (.cons (.tmp _ _ rfl) .nil) _ (Heap.le.refl _) ?_
  refine ⟨?_, rfl⟩
  unfold afM
  rw [if_neg (by simp [hc5])]; rfl
 ·have hrl := aaS (show qF ds e = true from by simpa using hc5)
  iterate 4 refine AX ?_
  refine .p rfl (zA Tryz.underlying48 rfl Tryz.sizeOf9 (tm rfl)) ?_
  iterate 2 refine AX ?_
  refine .p rfl (zA Tryz.underlying48 rfl Tryz.sizeOf3 (tm rfl)) ?_
  refine AX ?_
  refine .p rfl (zK (tm rfl) (tm rfl) (by omega)) ?_
  iterate 4 refine AX ?_
  refine Ret.go (.cons (.tmp _ _ rfl) .nil) _ (Heap.le.refl _) ?_
  refine ⟨?_, rfl⟩
  unfold afM
  rw [if_pos (by simpa using hc5)]; rfl

set_option maxRecDepth 100000 in
theorem akJ (b : UInt8) (H : Heap) : ACall Tryz.prog 58 [.int .u8 ((b.toNat : Nat) : Int)] H (fun y H' => y = .bool (digC b) ∧ H' = H) := by
 refine ACall.of_body Tryz.func58 rfl Tryz.ntmps58 Tryz.results58 rfl ?_
 iterate 5 refine AX ?_
 refine AWP.seqTo 2 (.bool (digC b)) [] ?_ ?_
 ·-- region 1
  iterate 4 refine AX ?_
  refine zI (t := 5) rfl (fun hg5 => ?_) (fun hg5 => ?_)
  ·have hh5 := hg5; try simp only [decide_eq_true_eq] at hh5
   iterate 5 refine AX ?_
   exact ⟨rfl, zZ rfl (by (unfold digC; rw [show decide ((48 : Int) ≤ ((b.toNat : Nat) : Int)) = _ from hg5]; rfl)) yX, rfl⟩
  ·have hh5 := hg5; try simp only [decide_eq_false_iff_not, Int.not_le] at hh5
   iterate 5 refine AX ?_
   exact ⟨rfl, zZ rfl (by (unfold digC; rw [show decide ((48 : Int) ≤ ((b.toNat : Nat) : Int)) = _ from hg5]; rfl)) yX, rfl⟩
 ·refine AWP.sub [(2, _)] (yC rfl yX) ?_
  refine AX ?_
  refine Ret.go (.cons (.tmp _ _ rfl) .nil) _ (Heap.le.refl _) ?_
  exact ⟨rfl, rfl⟩

def azR (neg : Bool) (ds : List UInt8) (e : Int) (H : Heap) : Nat → Env → Heap → Prop := fun k env H1 => ∃ i : Nat, i ≤ ds.length ∧ aqC (ds.take i) = true ∧ env = [(1, .iptr [.bool neg, .str ds, .int .i64 e]), (3, .int .i64 (ds.length : Int)), (4, .int .i64 (i : Int))] ∧ H = H1 ∧ k = ds.length - i

set_option maxRecDepth 100000 in
theorem atM (neg : Bool) (ds : List UInt8) (e : Int) (hl : ds.length ≤ maxLen) (H : Heap) : ACall Tryz.prog 19 [dA neg ds e] H (fun y H' => y = .bool (qF ds e) ∧ H' = H) := by
 rw [zP] at hl
 refine ACall.of_body Tryz.func19 rfl Tryz.ntmps19 Tryz.results19 rfl ?_
 iterate 2 refine AX ?_
 refine .e rfl (yF (tm rfl) (.inr ⟨_, rfl⟩)) ?_
 iterate 5 refine AX ?_
 refine .p rfl (zA Tryz.underlying48 rfl Tryz.sizeOf9 (tm rfl)) ?_
 iterate 12 refine AX ?_
 refine AWP.cx rfl (fun hc10 => ?_) (fun hc10 => ?_)
 ·iterate 2 refine AX ?_
  refine .p rfl (zA Tryz.underlying48 rfl Tryz.sizeOf3 (tm rfl)) ?_
  iterate 7 refine AX ?_
  refine Ret.go (.cons (.tmp _ _ rfl) .nil) _ (Heap.le.refl _) ?_
  refine ⟨?_, rfl⟩
  have h0 : ds = [] := List.length_eq_zero_iff.1 (by omega)
  unfold qF
  rw [if_pos h0]; rfl
 ·have hlp : 0 < ds.length := by omega
  have hne := List.length_pos_iff.1 hlp
  have hrq := amE (e := e) hne
  have hrn := bcM ds e
  iterate 3 refine AX ?_
  refine AWP.seqTo 39 (.bool ((decide ((1100 : Int) < (ds.length : Int)) || decide (e < -100000) || decide ((100000 : Int) < e) || decide (((ds.getD 0 0).toNat : Int) = 48) || decide (((ds.getD (ds.length - 1) 0).toNat : Int) = 48)))) [1, 2, 3] ?_ ?_
  ·-- region 4
   iterate 4 refine AX ?_
   refine zI (t := 16) rfl (fun hg16 => ?_) (fun hg16 => ?_)
   ·have hh16 := hg16; try simp only [decide_eq_true_eq] at hh16
    iterate 24 refine AX ?_
    exact ⟨rfl, zZ rfl (by (rw [show decide ((1100 : Int) < (ds.length : Int)) = _ from hg16]; rfl)) sX, rfl⟩
   ·have hh16 := hg16; try simp only [decide_eq_false_iff_not, Int.not_lt] at hh16
    refine .gp rfl rfl rfl (by assumption) (zA Tryz.underlying48 rfl Tryz.sizeOf3 (tm rfl)) ?_
    iterate 4 refine AX ?_
    refine zI (t := 21) rfl (fun hg21 => ?_) (fun hg21 => ?_)
    ·have hh21 := hg21; try simp only [decide_eq_true_eq] at hh21
     iterate 19 refine AX ?_
     exact ⟨rfl, zZ rfl (by (rw [show decide ((1100 : Int) < (ds.length : Int)) = _ from hg16, show decide (e < -100000) = _ from hg21]; rfl)) sX, rfl⟩
    ·have hh21 := hg21; try simp only [decide_eq_false_iff_not, Int.not_lt] at hh21
     refine .gp rfl rfl rfl (by assumption) (zA Tryz.underlying48 rfl Tryz.sizeOf3 (tm rfl)) ?_
     iterate 4 refine AX ?_
     refine zI (t := 26) rfl (fun hg26 => ?_) (fun hg26 => ?_)
     ·have hh26 := hg26; try simp only [decide_eq_true_eq] at hh26
      iterate 14 refine AX ?_
      exact ⟨rfl, zZ rfl (by (rw [show decide ((1100 : Int) < (ds.length : Int)) = _ from hg16, show decide (e < -100000) = _ from hg21, show decide ((100000 : Int) < e) = _ from hg26]; rfl)) sX, rfl⟩
     ·have hh26 := hg26; try simp only [decide_eq_false_iff_not, Int.not_lt] at hh26
      refine .gp rfl rfl rfl (by assumption) (zA Tryz.underlying48 rfl Tryz.sizeOf9 (tm rfl)) ?_
      refine AX ?_
      refine .gp rfl rfl rfl (by assumption) (yH Tryz.underlying9 (tm rfl) zF (by omega) (by omega)) ?_
      iterate 3 refine AX ?_
      refine zI (t := 32) rfl (fun hg32 => ?_) (fun hg32 => ?_)
      ·have hh32 := hg32; try simp only [decide_eq_true_eq] at hh32
       iterate 8 refine AX ?_
       exact ⟨rfl, zZ rfl (by (rw [show decide ((1100 : Int) < (ds.length : Int)) = _ from hg16, show decide (e < -100000) = _ from hg21, show decide ((100000 : Int) < e) = _ from hg26, show decide (((ds.getD 0 0).toNat : Int) = 48) = _ from hg32]; rfl)) sX, rfl⟩
      ·have hh32 := hg32; try simp only [decide_eq_false_iff_not] at hh32
       refine .gp rfl rfl rfl (by assumption) (zA Tryz.underlying48 rfl Tryz.sizeOf9 (tm rfl)) ?_
       iterate 2 refine AX ?_
       refine .gp rfl rfl rfl (by assumption) (zO (tm rfl) zF (by omega)) (.gp rfl rfl rfl (by assumption) (yH Tryz.underlying9 (tm rfl) (tm rfl) (by omega) (by omega)) ?_)
       iterate 3 refine AX ?_
       exact ⟨rfl, zZ rfl (by (rw [show decide ((1100 : Int) < (ds.length : Int)) = _ from hg16, show decide (e < -100000) = _ from hg21, show decide ((100000 : Int) < e) = _ from hg26, show decide (((ds.getD 0 0).toNat : Int) = 48) = _ from hg32, show ((ds.length : Int) - 1).toNat = ds.length - 1 by omega]; rfl)) sX, rfl⟩
  ·refine AWP.sub [(39, _), (1, _), (2, _), (3, _)] sX ?_
   refine AWP.cx rfl (fun hc39 => ?_) (fun hc39 => ?_)
   ·rw [hrn] at hc39
    have hrc : amF ds e = false := by simpa using hc39
    iterate 7 refine AX ?_
    refine Ret.go (.cons (.tmp _ _ rfl) .nil) _ (Heap.le.refl _) ?_
    refine ⟨?_, rfl⟩
    rw [hrq, hrc]; rfl
   ·rw [hrn] at hc39
    have hrc : amF ds e = true := by simpa using hc39
    iterate 9 refine AX ?_
    refine AWP.loopW (azR neg ds e H) (ds.length) ⟨0, Nat.zero_le _, rfl, rfl, rfl, rfl⟩ sX (Heap.le.refl _) ?_
    rintro _ _ _ ⟨i, hi, hdg, rfl, rfl, hk⟩
    iterate 8 refine AX ?_
    refine AWP.cx rfl (fun hc42 => ?_) (fun hc42 => ?_)
    ·have hdt := bjI (ds := ds) (by omega) hdg
     iterate 6 refine AX ?_
     refine .p rfl (zA Tryz.underlying48 rfl Tryz.sizeOf9 (tm rfl)) ?_
     iterate 2 refine AX ?_
     refine .p rfl (yH Tryz.underlying9 (tm rfl) (tm rfl) (by omega) (by omega)) (.cl rfl Tryz.call58 (evs1 rfl) (akJ _ _) ?_)
     iterate 9 refine AX ?_
     refine AWP.cx rfl (fun hc51 => ?_) (fun hc51 => ?_)
     ·have hdf : digC (ds.getD i 0) = false := by simpa using hc51
      iterate 11 refine AX ?_
      refine Ret.go (.cons (.tmp _ _ rfl) .nil) _ (Heap.le.refl _) ?_
      refine ⟨?_, rfl⟩
      have hdb : aqC ds = false := by
       cases h : aqC ds with
       | false => rfl
       | true => have := avB (i := i + 1) h; rw [hdt, hdf] at this; cases this
      rw [hrq, hdb, Bool.and_false]; rfl
     ·have hdf : digC (ds.getD i 0) = true := by simpa using hc51
      iterate 5 refine AX ?_
      refine .p rfl (zK (tm rfl) zF (by omega)) ?_
      iterate 3 refine AX ?_
      refine Round.mk (J := azR neg ds e H) ⟨i + 1, by omega, by rw [hdt, hdf], rfl, rfl, rfl⟩ sX (Heap.le.refl _) (by omega)
    ·iterate 11 refine AX ?_
     refine Ret.go (.cons (.tmp _ _ rfl) .nil) _ (Heap.le.refl _) ?_
     refine ⟨?_, rfl⟩
     rw [List.take_of_length_le (by omega)] at hdg
     rw [hrq, hrc, hdg]; rfl

set_option maxRecDepth 100000 in
theorem atN (neg : Bool) (ds : List UInt8) (e : Int) (hl : ds.length ≤ maxLen) (H : Heap) : ACall Tryz.prog 45 [dA neg ds e] H (fun y H' => y = .int .i64 (afM ds e) ∧ H' = H) := by
 refine ACall.of_body Tryz.func45 rfl Tryz.ntmps45 Tryz.results45 rfl ?_
 iterate 2 refine AX ?_
 refine .e rfl (yF (tm rfl) (.inr ⟨_, rfl⟩)) ?_
 iterate 6 refine AX ?_
 refine .cl rfl Tryz.call19 (evs1 rfl) (atM neg ds e hl _) ?_
 iterate 10 refine AX ?_
 refine AWP.cx rfl (fun hc7 => ?_) (fun hc7 => ?_)
 ·iterate 7 refine AX ?_
  refine Ret.go (.cons (.tmp _ _ rfl) .nil) _ (Heap.le.refl _) ?_
  refine ⟨?_, rfl⟩
  unfold afM
  rw [if_neg (by simp [hc7])]; rfl
 ·have hrl := aaS (show qF ds e = true from by simpa using hc7)
  iterate 4 refine AX ?_
  refine .p rfl (zA Tryz.underlying48 rfl Tryz.sizeOf9 (tm rfl)) ?_
  iterate 2 refine AX ?_
  refine .p rfl (zA Tryz.underlying48 rfl Tryz.sizeOf3 (tm rfl)) ?_
  refine AX ?_
  refine .p rfl (zK (tm rfl) (tm rfl) (by omega)) ?_
  iterate 4 refine AX ?_
  refine Ret.go (.cons (.tmp _ _ rfl) .nil) _ (Heap.le.refl _) ?_
  refine ⟨?_, rfl⟩
  unfold afM
  rw [if_pos (by simpa using hc7)]; rfl
theorem aqA {l : List UInt8} {c : UInt8} {i : Nat} (hi : i ≤ l.length) (h1 : ∀ q, q < i → l.getD q 0 = c) (h2 : i < l.length → l.getD i 0 ≠ c) : l.dropWhile (· == c) = l.drop i := by
 induction l generalizing i with
 | nil => simp
 | cons x l ih =>
  cases i with
  | zero =>
   have := h2 (by simp)
   have hx : x ≠ c := by simpa using this
   rw [List.dropWhile_cons, if_neg (by simpa using hx), List.drop_zero]
  | succ i =>
   have h0 : x = c := by simpa using h1 0 (by omega)
   rw [List.dropWhile_cons, if_pos (by simpa using h0), List.drop_succ_cons]
   exact ih (by simpa using hi) (fun q hq => by simpa using h1 (q + 1) (by omega)) (fun hq => by simpa using h2 (by simpa using hq))
theorem bbW {l : List UInt8} {c : UInt8} {m : Nat} (hm : m ≤ l.length) (h1 : ∀ q, m ≤ q → q < l.length → l.getD q 0 = c) (h2 : 0 < m → l.getD (m - 1) 0 ≠ c) : Lib.trimRightB l c = l.take m := by
 unfold Lib.trimRightB
 have e : l.reverse.dropWhile (· == c) = l.reverse.drop (l.length - m) := by
  have hr : ∀ q, q < l.length → l.reverse.getD q 0 = l.getD (l.length - 1 - q) 0 := fun q hq => by
   rw [List.getD_eq_getElem?_getD, List.getD_eq_getElem?_getD, List.getElem?_reverse hq]
  refine aqA (by simp) (fun q hq => ?_) (fun hq => ?_)
  ·rw [hr q (by omega)]; exact h1 _ (by omega) (by omega)
  ·rw [List.length_reverse] at hq
   rw [hr _ hq, show l.length - 1 - (l.length - m) = m - 1 by omega]; exact h2 (by omega)
 rw [e, List.drop_reverse, List.reverse_reverse, show l.length - (l.length - m) = m by omega]
theorem beL {ds : List UInt8} {i j : Nat} (hi : i ≤ ds.length) (hij : i ≤ j) (hj : j ≤ ds.length) (h1 : ∀ q, q < i → ds.getD q 0 = 48) (h2 : i < ds.length → ds.getD i 0 ≠ 48) (h3 : ∀ q, j ≤ q → q < ds.length → ds.getD q 0 = 48) (h4 : i < j → ds.getD (j - 1) 0 ≠ 48) :
  acF ds = (ds.take j).drop i ∧ (acF ds).length = j - i ∧ aoI ds = ds.length - j := by
 have e1 : axW ds = ds.drop i := aqA hi h1 h2
 have hg : ∀ q, (ds.drop i).getD q 0 = ds.getD (i + q) 0 := fun q => by
  rw [List.getD_eq_getElem?_getD, List.getD_eq_getElem?_getD, List.getElem?_drop]
 have e2 : acF ds = (ds.drop i).take (j - i) := by
  unfold acF
  rw [e1]
  refine bbW (by simp; omega) (fun q hq hl => ?_) (fun hq => ?_)
  ·rw [hg]; simp at hl; exact h3 _ (by omega) (by omega)
  ·rw [hg, show i + (j - i - 1) = j - 1 by omega]; exact h4 (by omega)
 have e3 : acF ds = (ds.take j).drop i := by rw [e2, List.drop_take]
 have e4 : (acF ds).length = j - i := by rw [e2, List.length_take, List.length_drop]; omega
 refine ⟨e3, e4, ?_⟩
 unfold aoI
 rw [e4, e1, List.length_drop]; omega

set_option maxRecDepth 100000 in
theorem ajZ (neg : Bool) (ds : List UInt8) (e : Int) (hd : Digs ds) (hl : ds.length ≤ 100000) (he : -1000000000000 ≤ e ∧ e ≤ 1000000000000) (H : Heap) : ACall Tryz.prog 34 [.bool neg, .str ds, .int .i64 e] H (fun y H' => y = dT (mkN neg ds e) ∧ H' = H) := by
 have hlo := auZ ds 48
 have hml := aiE (ds.dropWhile (· == 48)) 48
 have hmo : e + (((ds.dropWhile (· == 48)).length : Int) - ((Lib.trimRightB (ds.dropWhile (· == 48)) 48).length : Int)) = e + (aoI ds : Int) := by unfold aoI acF axW; omega
 have hdc : Digs (Lib.trimRightB (ds.dropWhile (· == 48)) 48) := (hd.dropWhile _).trimR _
 refine ACall.of_body Tryz.func34 rfl Tryz.ntmps34 Tryz.results34 rfl ?_
 iterate 2 refine AX ?_
 refine .s rfl (zL Tryz.zeroValue48 (zr48)) ?_
 rintro _ _ ⟨b6, hb6, rfl, hH⟩
 obtain rfl := hH.symm
 iterate 7 refine AX ?_
 refine .cl rfl Tryz.call67 (evs1 rfl) (amV ds hd _) ?_
 iterate 3 refine AX ?_
 refine AWP.cond_false (tm rfl) (by rfl) ?_
 iterate 5 refine AX ?_
 refine .cl rfl Tryz.call68 (.cons (tm rfl) (.cons (zR rfl) .nil)) (trimLeftA 48 (by decide) _ _) ?_
 iterate 7 refine AX ?_
 refine .cl rfl Tryz.call69 (.cons (tm rfl) (.cons (zR rfl) .nil)) (trimRightA 48 (by decide) _ _) (.p rfl (zU [(0, 1), (1, 1), (2, 1)] Tryz.underlying48 Tryz.zeroValue48 (zr48) rfl (pl48 _ Tryz.underlying48) (.cons (tm rfl) (.inl rfl) (.cons (tm rfl) (.inl rfl) .nil)) rfl) (.s rfl (zL Tryz.zeroValue48 (zr48)) ?_))
 rintro _ _ ⟨b9, hb9, rfl, hH⟩
 obtain rfl := hH.symm
 have hn6_9 := Heap.ne_of (Heap.objs_set_same _ _ _) hb9
 refine .e0 (zB Tryz.sizeOf48 (tm rfl) (tm rfl) rfl rfl (.inr ⟨_, rfl⟩) (Heap.objs_set_same _ _ _) (Nat.le_of_ble_eq_true rfl)) ?_
 try first | rw [Heap.set_set] | rw [Heap.set_under (by assumption)]
 iterate 5 refine AX ?_
 refine .p rfl (zD Tryz.underlying48 rfl Tryz.sizeOf9 (tm rfl)) (.e rfl (zN Tryz.isAgg9 (tm rfl) (Heap.objs_set_same _ _ _) rfl) ?_)
 iterate 3 refine AX ?_
 refine AWP.cx rfl (fun hc22 => ?_) (fun hc22 => ?_)
 ·iterate 2 refine AX ?_
  refine .e rfl (yJ Tryz.isAgg48 Tryz.sizeOf48 (tm rfl) (Heap.objs_set_same _ _ _) (Nat.le_of_ble_eq_true rfl)) (.e0 (zB Tryz.sizeOf48 (tm rfl) (tm rfl) rfl rfl (.inr ⟨_, rfl⟩) ((Heap.objs_set_ne _ _ (by assumption)).trans (Heap.objs_set_same _ _ _)) (Nat.le_of_ble_eq_true rfl)) ?_)
  try first | rw [Heap.set_set] | rw [Heap.set_under (by assumption)]
  iterate 3 refine AX ?_
  refine AWP.dropb (Heap.fresh_set hb9 _) ?_
  refine AWP.frz (t := 6) rfl (hb6) ?_
  iterate 2 refine AX ?_
  refine Ret.go (.cons (.cellI _ _ _ _ rfl Tryz.isAgg48 Tryz.sizeOf48 rfl) (.cons (.tmp _ _ rfl) .nil)) _ (Heap.le.refl _) ?_
  refine ⟨?_, rfl⟩
  unfold mkN
  rw [if_pos (show acF ds = [] from hc22)]
  rw [show ds.dropWhile (· == 48) = axW ds from rfl, show Lib.trimRightB (axW ds) 48 = acF ds from rfl, show acF ds = [] from hc22]; rfl
 ·iterate 6 refine AX ?_
  refine .p rfl (zD Tryz.underlying48 rfl Tryz.sizeOf3 (tm rfl)) (.e0 (zB Tryz.sizeOf3 (tm rfl) (tm rfl) rfl rfl (.inl rfl) (Heap.objs_set_same _ _ _) (Nat.le_of_ble_eq_true rfl)) ?_)
  try first | rw [Heap.set_set] | rw [Heap.set_under (by assumption)]
  iterate 6 refine AX ?_
  refine .p rfl (zK (tm rfl) zF (by omega)) (.p rfl (aaE (tm rfl) (by omega)) (.p rfl (acC (tm rfl) (tm rfl)) ?_))
  iterate 3 refine AX ?_
  refine AWP.cond_true (tm rfl) (by exact decide_eq_true (by simp only [ayB]; split <;> omega)) ?_
  refine AX ?_
  refine .p rfl (zD Tryz.underlying48 rfl Tryz.sizeOf3 (tm rfl)) (.e rfl (zN Tryz.isAgg3 (tm rfl) (Heap.objs_set_same _ _ _) rfl) ?_)
  iterate 2 refine AX ?_
  refine .p rfl (zD Tryz.underlying48 rfl Tryz.sizeOf9 (tm rfl)) (.e rfl (zN Tryz.isAgg9 (tm rfl) (Heap.objs_set_same _ _ _) rfl) ?_)
  refine AX ?_
  refine .p rfl (zO (tm rfl) (tm rfl) (by omega)) (.p rfl (zK (tm rfl) (tm rfl) (by omega)) (.p rfl (zD Tryz.underlying48 rfl Tryz.sizeOf3 (tm rfl)) (.e0 (zB Tryz.sizeOf3 (tm rfl) (tm rfl) rfl rfl (.inl rfl) (Heap.objs_set_same _ _ _) (Nat.le_of_ble_eq_true rfl)) ?_)))
  try first | rw [Heap.set_set] | rw [Heap.set_under (by assumption)]
  iterate 4 refine AX ?_
  rw [hmo]
  refine AX ?_
  refine .e rfl (yJ Tryz.isAgg48 Tryz.sizeOf48 (tm rfl) (Heap.objs_set_same _ _ _) (Nat.le_of_ble_eq_true rfl)) (.cl rfl Tryz.call60 (evs1 rfl) (aeA neg _ _ hdc _) ?_)
  iterate 3 refine AX ?_
  refine AWP.cx rfl (fun hc44 => ?_) (fun hc44 => ?_)
  ·iterate 2 refine AX ?_
   refine .p rfl (zU [(0, 1), (1, 1), (2, 1)] Tryz.underlying48 Tryz.zeroValue48 (zr48) rfl (pl48 _ Tryz.underlying48) .nil rfl) (.e0 (zB Tryz.sizeOf48 (tm rfl) (tm rfl) rfl rfl (.inr ⟨_, rfl⟩) ((Heap.objs_set_ne _ _ (by assumption)).trans (Heap.objs_set_same _ _ _)) (Nat.le_of_ble_eq_true rfl)) ?_)
   try first | rw [Heap.set_set] | rw [Heap.set_under (by assumption)]
   iterate 3 refine AX ?_
   refine AWP.dropb (hb9) ?_
   refine AWP.frz (t := 6) rfl (hb6) ?_
   iterate 2 refine AX ?_
   refine Ret.go (.cons (.cellI _ _ _ _ rfl Tryz.isAgg48 Tryz.sizeOf48 rfl) (.cons (.tmp _ _ rfl) .nil)) _ (Heap.le.refl _) ?_
   refine ⟨?_, rfl⟩
   have hr : qF (acF ds) (e + aoI ds) = false := by first | exact hc44 | exact (Bool.not_eq_false _).mp hc44 | (simp only [Bool.not_eq_true, Bool.not_eq_false] at hc44; exact hc44)
   rw [ajV hd hc22] at hr
   unfold mkN
   rw [if_neg (show ¬ acF ds = [] from hc22), if_neg (by rintro ⟨q1, q2, q3⟩; simp [q1, q2, q3] at hr)]; rfl
  ·iterate 4 refine AX ?_
   refine .e rfl (yJ Tryz.isAgg48 Tryz.sizeOf48 (tm rfl) (Heap.objs_set_same _ _ _) (Nat.le_of_ble_eq_true rfl)) (.e0 (zB Tryz.sizeOf48 (tm rfl) (tm rfl) rfl rfl (.inr ⟨_, rfl⟩) ((Heap.objs_set_ne _ _ (by assumption)).trans (Heap.objs_set_same _ _ _)) (Nat.le_of_ble_eq_true rfl)) ?_)
   try first | rw [Heap.set_set] | rw [Heap.set_under (by assumption)]
   iterate 3 refine AX ?_
   refine AWP.dropb (Heap.fresh_set hb9 _) ?_
   refine AWP.frz (t := 6) rfl (hb6) ?_
   refine AX ?_
   refine Ret.go (.cons (.cellI _ _ _ _ rfl Tryz.isAgg48 Tryz.sizeOf48 rfl) (.cons (.tmp _ _ rfl) .nil)) _ (Heap.le.refl _) ?_
   refine ⟨?_, rfl⟩
   have hr : qF (acF ds) (e + aoI ds) = true := by first | exact hc44 | exact (Bool.not_eq_false _).mp hc44 | (simp only [Bool.not_eq_true, Bool.not_eq_false] at hc44; exact hc44)
   rw [ajV hd hc22] at hr
   simp only [Bool.and_eq_true, decide_eq_true_eq] at hr
   unfold mkN
   rw [if_neg (show ¬ acF ds = [] from hc22), if_pos ⟨hr.1.1, hr.1.2, hr.2⟩]; rfl

def rmk_J (neg : Bool) (ds : List UInt8) (e : Int) (b : Nat) (H : Heap) : Nat → Env → Heap → Prop := fun k env H1 => ∃ i : Nat, i ≤ ds.length ∧ env = [(0, .bool neg), (1, .str ds), (2, .int .i64 e), (6, .ptr (some ⟨b, 0, none⟩)), (8, .int .i64 (i : Int))] ∧ H1 = H.set b (.box 48 [.bool false, .str [], .int .i64 0]) ∧ k = ds.length - i

def rmkF_J (neg : Bool) (ds : List UInt8) (e : Int) (b : Nat) (H : Heap) : Nat → Env → Heap → Prop := fun k env H1 => ∃ i : Nat, i ≤ ds.length ∧ (∀ q, q < i → ds.getD q 0 = 48) ∧ env = [(0, .bool neg), (1, .str ds), (2, .int .i64 e), (6, .ptr (some ⟨b, 0, none⟩)), (10, .int .i64 (i : Int))] ∧ H1 = H.set b (.box 48 [.bool false, .str [], .int .i64 0]) ∧ k = ds.length - i

def rmkT_J (neg : Bool) (ds : List UInt8) (e : Int) (b i : Nat) (H : Heap) : Nat → Env → Heap → Prop := fun k env H1 => ∃ j : Nat, i ≤ j ∧ j ≤ ds.length ∧ (∀ q, j ≤ q → q < ds.length → ds.getD q 0 = 48) ∧ env = [(0, .bool neg), (1, .str ds), (2, .int .i64 e), (6, .ptr (some ⟨b, 0, none⟩)), (10, .int .i64 (i : Int)), (11, .int .i64 (j : Int)), (12, .int .i64 ((ds.length - j : Nat) : Int))] ∧ H1 = H.set b (.box 48 [.bool false, .str [], .int .i64 0]) ∧ k = j

theorem asH {b : UInt8} : ((b.toNat : Nat) : Int) = 48 ↔ b = 48 := by
 have := asG (b := b) 48 (by decide)
 exact decide_eq_decide.1 this

set_option maxRecDepth 100000 in
theorem awW (neg : Bool) (ds : List UInt8) (e : Int) (hd : Digs ds) (hl : ds.length ≤ 100000) (he : -1000000000000 ≤ e ∧ e ≤ 1000000000000) (H : Heap) : ACall Tryz.prog 41 [.bool neg, .str ds, .int .i64 e] H (fun y H' => y = dT (mkN neg ds e) ∧ H' = H) := by
 refine ACall.of_body Tryz.func41 rfl Tryz.ntmps41 Tryz.results41 rfl ?_
 iterate 2 refine AX ?_
 refine .s rfl (zL Tryz.zeroValue48 (zr48)) ?_
 rintro _ _ ⟨b6, hb6, rfl, hH⟩
 obtain rfl := hH.symm
 iterate 10 refine AX ?_
 refine AWP.loopW (rmk_J neg ds e b6 H) (ds.length) ⟨0, Nat.zero_le _, rfl, rfl, rfl⟩ sX (Heap.le.refl _) ?_
 rintro _ _ _ ⟨i, hi, rfl, rfl, hk⟩
 iterate 9 refine AX ?_
 refine AWP.cx rfl (fun hc16 => ?_) (fun hc16 => ?_)
 ·have hda := hd.at (show i < ds.length by omega)
  have hdc : digC (ds.getD i 0) = true := by unfold digC; rw [decide_eq_true (by omega), decide_eq_true (by omega)]; rfl
  iterate 8 refine AX ?_
  refine .p rfl (yH Tryz.underlying9 (tm rfl) (tm rfl) (by omega) (by omega)) (.cl rfl Tryz.call58 (evs1 rfl) (akJ (ds.getD i 0) _) ?_)
  iterate 9 refine AX ?_
  refine AWP.cond_false (tm rfl) (by rw [hdc]; rfl) ?_
  iterate 5 refine AX ?_
  refine .p rfl (zK (tm rfl) zF (by omega)) ?_
  iterate 3 refine AX ?_
  refine Round.mk (J := rmk_J neg ds e b6 H) ⟨i + 1, by omega, rfl, rfl, rfl⟩ sX (Heap.le.refl _) (by omega)
 ·iterate 12 refine AX ?_
  refine AWP.loopW (rmkF_J neg ds e b6 H) (ds.length) ⟨0, Nat.zero_le _, fun q hq => by omega, rfl, rfl, rfl⟩ sX (Heap.le.refl _) ?_
  rintro _ _ _ ⟨i, hi, hz, rfl, rfl, hk⟩
  refine AX ?_
  refine AWP.seqTo 35 (.bool (decide ((i : Int) < (ds.length : Int)) && decide (((ds.getD i 0).toNat : Int) = 48))) [0, 1, 2, 6, 10] ?_ ?_
  ·-- region 8
   iterate 6 refine AX ?_
   refine zI (t := 30) rfl (fun hg30 => ?_) (fun hg30 => ?_)
   ·have hh30 := hg30; try simp only [decide_eq_true_eq] at hh30
    iterate 2 refine AX ?_
    refine .gp rfl rfl rfl (by assumption) (yH Tryz.underlying9 (tm rfl) (tm rfl) (by omega) (by omega)) ?_
    iterate 3 refine AX ?_
    exact ⟨rfl, zZ rfl (by (rw [show decide ((i : Int) < (ds.length : Int)) = _ from hg30]; rfl)) sX, rfl⟩
   ·have hh30 := hg30; try simp only [decide_eq_false_iff_not, Int.not_lt] at hh30
    iterate 6 refine AX ?_
    exact ⟨rfl, zZ rfl (by (rw [show decide ((i : Int) < (ds.length : Int)) = _ from hg30]; rfl)) sX, rfl⟩
  ·refine AWP.sub [(35, _), (0, _), (1, _), (2, _), (6, _), (10, _)] sX ?_
   refine AWP.cx rfl (fun hc35 => ?_) (fun hc35 => ?_)
   ·simp only [Bool.and_eq_true, decide_eq_true_eq] at hc35
    have h48 := asH.1 hc35.2
    iterate 5 refine AX ?_
    refine .p rfl (zK (tm rfl) zF (by omega)) ?_
    iterate 4 refine AX ?_
    refine Round.mk (J := rmkF_J neg ds e b6 H) ⟨i + 1, by omega, fun q hq => by rcases Nat.lt_or_ge q i with h | h; exact hz q h; rw [show q = i by omega]; exact h48, rfl, rfl, rfl⟩ sX (Heap.le.refl _) (by omega)
   ·simp only [Bool.and_eq_false_iff, decide_eq_false_iff_not] at hc35
    have hne : i < ds.length → ds.getD i 0 ≠ 48 := fun h h2 => hc35.elim (fun q => q (by omega)) (fun q => q (asH.2 h2))
    iterate 19 refine AX ?_
    refine AWP.loopW (rmkT_J neg ds e b6 i H) (ds.length) ⟨ds.length, hi, Nat.le_refl _, fun q hq h => by omega, rfl, rfl, rfl⟩ (yC rfl (yC rfl (yC rfl (yC rfl (yC rfl (yC rfl (zW rfl (by rw [Nat.sub_self]; rfl) yX))))))) (Heap.le.refl _) ?_
    rintro _ _ _ ⟨j, hij, hj, hz2, rfl, rfl, hk⟩
    refine AX ?_
    refine AWP.seqTo 49 (.bool (decide ((i : Int) < (j : Int)) && decide (((ds.getD (j - 1) 0).toNat : Int) = 48))) [0, 1, 2, 6, 10, 11, 12] ?_ ?_
    ·-- region 12
     iterate 5 refine AX ?_
     refine zI (t := 43) rfl (fun hg43 => ?_) (fun hg43 => ?_)
     ·have hh43 := hg43; try simp only [decide_eq_true_eq] at hh43
      iterate 2 refine AX ?_
      refine .gp rfl rfl rfl (by assumption) (zO (tm rfl) zF (by omega)) (.gp rfl rfl rfl (by assumption) (yH Tryz.underlying9 (tm rfl) (tm rfl) (by omega) (by omega)) ?_)
      iterate 3 refine AX ?_
      exact ⟨rfl, zZ rfl (by (rw [show decide ((i : Int) < (j : Int)) = _ from hg43, show ((j : Int) - 1).toNat = j - 1 by omega]; rfl)) sX, rfl⟩
     ·have hh43 := hg43; try simp only [decide_eq_false_iff_not, Int.not_lt] at hh43
      iterate 7 refine AX ?_
      exact ⟨rfl, zZ rfl (by (rw [show decide ((i : Int) < (j : Int)) = _ from hg43]; rfl)) sX, rfl⟩
    ·refine AWP.sub [(49, _), (0, _), (1, _), (2, _), (6, _), (10, _), (11, _), (12, _)] sX ?_
     refine AWP.cx rfl (fun hc49 => ?_) (fun hc49 => ?_)
     ·simp only [Bool.and_eq_true, decide_eq_true_eq] at hc49
      have h48 := asH.1 hc49.2
      iterate 6 refine AX ?_
      refine .p rfl (zO (tm rfl) zF (by omega)) ?_
      iterate 5 refine AX ?_
      refine .p rfl (zK (tm rfl) zF (by omega)) ?_
      iterate 4 refine AX ?_
      refine Round.mk (J := rmkT_J neg ds e b6 i H) ⟨j - 1, by omega, by omega, fun q hq h => by rcases Nat.lt_or_ge q j with h2 | h2; rw [show q = j - 1 by omega]; exact h48; exact hz2 q h2 h, rfl, rfl, rfl⟩ (yC rfl (yC rfl (yC rfl (yC rfl (yC rfl (zW rfl (by congr 1; omega) (zW rfl (by congr 1; omega) yX))))))) (Heap.le.refl _) (by omega)
     ·simp only [Bool.and_eq_false_iff, decide_eq_false_iff_not] at hc49
      have hne2 : i < j → ds.getD (j - 1) 0 ≠ 48 := fun h h2 => hc49.elim (fun q => q (by omega)) (fun q => q (asH.2 h2))
      obtain ⟨hco, hcl, hmr⟩ := beL hi hij hj hz hne hz2 hne2
      iterate 13 refine AX ?_
      refine AWP.cx rfl (fun hc56 => ?_) (fun hc56 => ?_)
      ·iterate 3 refine AX ?_
       refine .p rfl (zU [(0, 1), (1, 1), (2, 1)] Tryz.underlying48 Tryz.zeroValue48 (zr48) rfl (pl48 _ Tryz.underlying48) (.cons (tm rfl) (.inl rfl) .nil) rfl) (.e0 (zB Tryz.sizeOf48 (tm rfl) (tm rfl) rfl rfl (.inr ⟨_, rfl⟩) (Heap.objs_set_same _ _ _) (Nat.le_of_ble_eq_true rfl)) ?_)
       try first | rw [Heap.set_set] | rw [Heap.set_under (by assumption)]
       iterate 3 refine AX ?_
       refine AWP.frz (t := 6) rfl (hb6) ?_
       iterate 2 refine AX ?_
       refine Ret.go (.cons (.cellI _ _ _ _ rfl Tryz.isAgg48 Tryz.sizeOf48 rfl) (.cons (.tmp _ _ rfl) .nil)) _ (Heap.le.refl _) ?_
       refine ⟨?_, rfl⟩
       unfold mkN
       rw [if_pos (List.length_eq_zero_iff.1 (by omega))]; rfl
      ·iterate 3 refine AX ?_
       refine AWP.seqTo 78 (.bool (decide ((1100 : Int) < (j : Int) - (i : Int)) || decide ((100000 : Int) < e) || decide (e < -100000 - ((ds.length - j : Nat) : Int)) || decide ((100000 : Int) < e + ((ds.length - j : Nat) : Int)))) [0, 1, 2, 6, 10, 11, 12] ?_ ?_
       ·-- region 17
        iterate 3 refine AX ?_
        refine .p rfl (zO (tm rfl) (tm rfl) (by omega)) ?_
        iterate 2 refine AX ?_
        refine zI (t := 63) rfl (fun hg63 => ?_) (fun hg63 => ?_)
        ·have hh63 := hg63; try simp only [decide_eq_true_eq] at hh63
         iterate 16 refine AX ?_
         exact ⟨rfl, zZ rfl (by (rw [show decide ((1100 : Int) < (j : Int) - (i : Int)) = _ from hg63]; rfl)) sX, rfl⟩
        ·have hh63 := hg63; try simp only [decide_eq_false_iff_not, Int.not_lt] at hh63
         iterate 4 refine AX ?_
         refine zI (t := 67) rfl (fun hg67 => ?_) (fun hg67 => ?_)
         ·have hh67 := hg67; try simp only [decide_eq_true_eq] at hh67
          iterate 12 refine AX ?_
          exact ⟨rfl, zZ rfl (by (rw [show decide ((1100 : Int) < (j : Int) - (i : Int)) = _ from hg63, show decide ((100000 : Int) < e) = _ from hg67]; rfl)) sX, rfl⟩
         ·have hh67 := hg67; try simp only [decide_eq_false_iff_not, Int.not_lt] at hh67
          iterate 2 refine AX ?_
          refine .gp rfl rfl rfl (by assumption) (zO zF (tm rfl) (by omega)) ?_
          iterate 3 refine AX ?_
          refine zI (t := 73) rfl (fun hg73 => ?_) (fun hg73 => ?_)
          ·have hh73 := hg73; try simp only [decide_eq_true_eq] at hh73
           iterate 6 refine AX ?_
           exact ⟨rfl, zZ rfl (by (rw [show decide ((1100 : Int) < (j : Int) - (i : Int)) = _ from hg63, show decide ((100000 : Int) < e) = _ from hg67, show decide (e < -100000 - ((ds.length - j : Nat) : Int)) = _ from hg73]; rfl)) sX, rfl⟩
          ·have hh73 := hg73; try simp only [decide_eq_false_iff_not, Int.not_lt] at hh73
           iterate 2 refine AX ?_
           refine .gp rfl rfl rfl (by assumption) (zK (tm rfl) (tm rfl) (by omega)) ?_
           iterate 3 refine AX ?_
           exact ⟨rfl, zZ rfl (by (rw [show decide ((1100 : Int) < (j : Int) - (i : Int)) = _ from hg63, show decide ((100000 : Int) < e) = _ from hg67, show decide (e < -100000 - ((ds.length - j : Nat) : Int)) = _ from hg73]; rfl)) sX, rfl⟩
       ·refine AWP.sub [(78, _), (0, _), (1, _), (2, _), (6, _), (10, _), (11, _), (12, _)] sX ?_
        refine AWP.cx rfl (fun hc78 => ?_) (fun hc78 => ?_)
        ·simp only [Bool.or_eq_true, decide_eq_true_eq] at hc78
         iterate 2 refine AX ?_
         refine .p rfl (zU [(0, 1), (1, 1), (2, 1)] Tryz.underlying48 Tryz.zeroValue48 (zr48) rfl (pl48 _ Tryz.underlying48) .nil rfl) (.e0 (zB Tryz.sizeOf48 (tm rfl) (tm rfl) rfl rfl (.inr ⟨_, rfl⟩) (Heap.objs_set_same _ _ _) (Nat.le_of_ble_eq_true rfl)) ?_)
         try first | rw [Heap.set_set] | rw [Heap.set_under (by assumption)]
         iterate 3 refine AX ?_
         refine AWP.frz (t := 6) rfl (hb6) ?_
         iterate 2 refine AX ?_
         refine Ret.go (.cons (.cellI _ _ _ _ rfl Tryz.isAgg48 Tryz.sizeOf48 rfl) (.cons (.tmp _ _ rfl) .nil)) _ (Heap.le.refl _) ?_
         refine ⟨?_, rfl⟩
         unfold mkN
         rw [if_neg (fun h => by rw [h] at hcl; simp at hcl; omega), if_neg (show ¬ okD ds e by unfold okD; rw [hcl, hmr]; omega)]; rfl
        ·simp only [Bool.or_eq_false_iff, decide_eq_false_iff_not] at hc78
         iterate 8 refine AX ?_
         refine .p rfl (afE Tryz.underlying9 (tm rfl) (tm rfl) (tm rfl) (by omega) (by omega) (by omega)) ?_
         iterate 2 refine AX ?_
         refine .p rfl (zK (tm rfl) (tm rfl) (by omega)) ?_
         refine .p rfl (zU [(0, 1), (1, 1), (2, 1)] Tryz.underlying48 Tryz.zeroValue48 (zr48) rfl (pl48 _ Tryz.underlying48) (.cons (tm rfl) (.inl rfl) (.cons (tm rfl) (.inl rfl) (.cons (tm rfl) (.inl rfl) .nil))) rfl) ?_
         refine .e0 (zB Tryz.sizeOf48 (tm rfl) (tm rfl) rfl rfl (.inr ⟨_, rfl⟩) (Heap.objs_set_same _ _ _) (Nat.le_of_ble_eq_true rfl)) ?_
         try first | rw [Heap.set_set] | rw [Heap.set_under (by assumption)]
         iterate 3 refine AX ?_
         refine AWP.frz (t := 6) rfl (hb6) ?_
         refine AX ?_
         refine Ret.go (.cons (.cellI _ _ _ _ rfl Tryz.isAgg48 Tryz.sizeOf48 rfl) (.cons (.tmp _ _ rfl) .nil)) _ (Heap.le.refl _) ?_
         refine ⟨?_, rfl⟩
         unfold mkN
         rw [if_neg (fun h => by rw [h] at hcl; simp at hcl; omega), if_pos (show okD ds e by unfold okD; rw [hcl, hmr]; omega), hco, hmr]; rfl
def upB (rest : List UInt8) : Bool := decide (53 ≤ (rest.getD 0 0).toNat)
theorem cmp5 {rest : List UInt8} (h : rest ≠ []) : (0 : Int) ≤ Lib.compareBytes rest [53] ↔ 53 ≤ (rest.getD 0 0).toNat := by
 cases rest with
 | nil => exact absurd rfl h
 | cons x r =>
  unfold Lib.compareBytes
  simp only [List.getD_cons_zero]
  have hx : x < 53 ↔ x.toNat < 53 := UInt8.lt_iff_toNat_lt
  have hy : 53 < x ↔ 53 < x.toNat := UInt8.lt_iff_toNat_lt
  split
  ·rename_i h1; have := hx.1 h1; omega
  ·rename_i h1
   have h1' : ¬ x.toNat < 53 := fun q => h1 (hx.2 q)
   split
   ·omega
   ·cases r with
    | nil => unfold Lib.compareBytes; omega
    | cons y r => unfold Lib.compareBytes; omega
def incD (s : List UInt8) : List UInt8 :=
 if Lib.trimRightB s 57 = [] then 49 :: List.replicate s.length 48
 else (Lib.trimRightB s 57).take ((Lib.trimRightB s 57).length - 1) ++ [UInt8.ofNat (((Lib.trimRightB s 57).getD ((Lib.trimRightB s 57).length - 1) 0).toNat + 1)] ++ List.replicate (s.length - (Lib.trimRightB s 57).length) 48
def cutD (neg : Bool) (ds : List UInt8) (e : Int) (n : Nat) : (Bool × List UInt8 × Int) × Int := mkN neg (if upB (ds.drop n) = true then incD (ds.take n) else ds.take n) (e + ds.length - n)
def sigD (neg : Bool) (ds : List UInt8) (e : Int) (n : Nat) : (Bool × List UInt8 × Int) × Int := if ds.length ≤ n then ((neg, ds, e), 0) else cutD neg ds e n
theorem Digs.app {a b : List UInt8} (h : Digs a) (k : Digs b) : Digs (a ++ b) := fun x hx => by
 rcases List.mem_append.1 hx with h1 | h1
 ·exact h x h1
 ·exact k x h1
theorem Digs.rep {n : Nat} {x : UInt8} (h : isD x) : Digs (List.replicate n x) := fun y hy => by rw [List.eq_of_mem_replicate hy]; exact h
theorem Digs.one {x : UInt8} (h : isD x) : Digs [x] := fun y hy => by rw [List.mem_singleton.1 hy]; exact h
theorem last_9 {s : List UInt8} (hd : Digs s) (h : Lib.trimRightB s 57 ≠ []) : 48 ≤ ((Lib.trimRightB s 57).getD ((Lib.trimRightB s 57).length - 1) 0).toNat ∧ ((Lib.trimRightB s 57).getD ((Lib.trimRightB s 57).length - 1) 0).toNat < 57 := by
 have hp := List.length_pos_iff.2 h
 have h1 := (hd.trimR 57).at (p := (Lib.trimRightB s 57).length - 1) (by omega)
 have h2 := aoQ h
 refine ⟨h1.1, ?_⟩
 rcases Nat.lt_or_ge ((Lib.trimRightB s 57).getD ((Lib.trimRightB s 57).length - 1) 0).toNat 57 with q | q
 ·exact q
 ·exact absurd (UInt8.toNat_inj.1 (show _ = (57 : UInt8).toNat by simp only [UInt8.reduceToNat]; omega)) h2
theorem auO {s : List UInt8} (hd : Digs s) : Digs (incD s) := by
 unfold incD
 split
 ·exact Digs.app (a := [49]) (Digs.one (by unfold isD; decide)) (Digs.rep (by unfold isD; decide))
 ·rename_i h
  obtain ⟨h1, h2⟩ := last_9 hd h
  refine Digs.app (Digs.app ((hd.trimR 57).take _) (Digs.one ?_)) (Digs.rep (by unfold isD; decide))
  unfold isD
  rw [UInt8.toNat_ofNat']
  omega
theorem baQ (s : List UInt8) : (incD s).length ≤ s.length + 1 := by
 unfold incD
 have := aiE s 57
 split
 ·simp
 ·rename_i h
  have hp := List.length_pos_iff.2 h
  simp only [List.length_append, List.length_take, List.length_replicate, List.length_cons, List.length_nil]; omega

set_option maxRecDepth 100000 in
theorem bfF (neg : Bool) (kept rest : List UInt8) (hr : rest ≠ []) (H : Heap) : ACall Tryz.prog 168 [.bool neg, .str kept, .str rest, .int .i64 1] H (fun y H' => y = .bool (upB rest) ∧ H' = H) := by
 refine ACall.of_body Tryz.func168 rfl Tryz.ntmps168 Tryz.results168 rfl ?_
 iterate 12 refine AX ?_
 refine AWP.cond_false (tm rfl) (by exact decide_eq_false hr) ?_
 iterate 5 refine AX ?_
 refine .cl rfl Tryz.call212 (.cons (tm rfl) (.cons (zR rfl) .nil)) (compareA rest [53] _) ?_
 iterate 16 refine AX ?_
 refine AWP.cond_false (tm rfl) (by rfl) ?_
 iterate 6 refine AX ?_
 refine AWP.cond_true (tm rfl) (by rfl) ?_
 iterate 10 refine AX ?_
 refine Ret.go (.cons (.tmp _ _ rfl) .nil) _ (Heap.le.refl _) ?_
 refine ⟨?_, rfl⟩
 simp only [yP, upB]
 congr 1
 exact decide_eq_decide.2 (cmp5 hr)

set_option maxRecDepth 100000 in
theorem bdJ (s : List UInt8) (hd : Digs s) (hl : s.length ≤ 100000) (H : Heap) : ACall Tryz.prog 169 [.str s] H (fun y H' => y = .str (incD s) ∧ H' = H) := by
 have htl := aiE s 57
 have hml := zP
 refine ACall.of_body Tryz.func169 rfl Tryz.ntmps169 Tryz.results169 rfl ?_
 iterate 8 refine AX ?_
 refine .cl rfl Tryz.call69 (.cons (tm rfl) (.cons (zR rfl) .nil)) (trimRightA 57 (by decide) s _) ?_
 iterate 9 refine AX ?_
 refine .p rfl (zO (tm rfl) (tm rfl) (by omega)) (.cl rfl Tryz.call93 (.cons (zR rfl) (evs1 rfl)) (repeatZ 48 _ (s.length - (Lib.trimRightB s 57).length) (by omega) (by omega) _) ?_)
 iterate 10 refine AX ?_
 refine AWP.cx rfl (fun hc14 => ?_) (fun hc14 => ?_)
 ·iterate 3 refine AX ?_
  refine .p rfl (yE (zR rfl) (tm rfl) (by rw [zP, List.length_replicate]; simp only [List.length_cons, List.length_nil]; omega)) ?_
  iterate 5 refine AX ?_
  refine Ret.go (.cons (.tmp _ _ rfl) .nil) _ (Heap.le.refl _) ?_
  refine ⟨?_, rfl⟩
  unfold incD
  rw [if_pos hc14, hc14]; rfl
 ·have htp := List.length_pos_iff.2 hc14
  obtain ⟨h91, h92⟩ := last_9 hd hc14
  have htn : (((Lib.trimRightB s 57).length : Int) - 1).toNat = (Lib.trimRightB s 57).length - 1 := by omega
  rw [← htn] at h91 h92
  iterate 3 refine AX ?_
  refine AWP.draw [(0, true), (1, true), (2, true), (3, true), (4, true), (5, true), (6, true), (7, true), (8, true), (9, true), (10, true), (11, true), (12, true), (13, true), (14, true), (15, true)] rfl (by decide +kernel) ?_
  iterate 3 refine AX ?_
  refine .p rfl rfl (zO (tm rfl) zF (by omega)) (.p rfl rfl (qP Tryz.underlying9 (tm rfl) (tm rfl) (by omega) (by omega)) ?_)
  iterate 3 refine AX ?_
  refine .p rfl rfl (zO (tm rfl) zF (by omega)) (.p rfl rfl (yH Tryz.underlying9 (tm rfl) (tm rfl) (by omega) (by omega)) (.p rfl rfl (bdB (tm rfl) (zG 1) (by omega)) (.p rfl rfl (atW Tryz.underlying5 Tryz.underlying9 (tm rfl) (by omega)) (.p rfl rfl (yE (tm rfl) (tm rfl) (by rw [zP]; simp only [List.length_cons, List.length_nil, List.length_take]; omega)) ?_))))
  refine AX ?_
  refine .p rfl rfl (yE (tm rfl) (tm rfl) (by rw [zP]; simp only [List.length_append, List.length_replicate, List.length_cons, List.length_nil, List.length_take]; omega)) ?_
  iterate 4 refine AX ?_
  refine Ret.go (.cons (.tmp _ _ rfl) .nil) _ (Heap.le.refl _) ?_
  refine ⟨?_, rfl⟩
  unfold incD
  rw [if_neg hc14, ← htn]; rfl

set_option maxRecDepth 100000 in
theorem beK (neg : Bool) (ds : List UInt8) (e : Int) (n : Nat) (hd : Digs ds) (hn : 0 < n) (hn2 : n < ds.length) (hl : ds.length ≤ 2000) (he : -200000 ≤ e ∧ e ≤ 200000) (H : Heap) : ACall Tryz.prog 123 [dA neg ds e, .int .i64 (n : Int), .int .i64 1] H (fun y H' => y = dT (cutD neg ds e n) ∧ H' = H) := by
 have hdn : ds.drop n ≠ [] := by intro h; have := congrArg List.length h; simp at this; omega
 have hil := baQ (ds.take n)
 rw [List.length_take] at hil
 have hml := zP
 refine ACall.of_body Tryz.func123 rfl Tryz.ntmps123 Tryz.results123 rfl ?_
 iterate 2 refine AX ?_
 refine .e rfl (yF (tm rfl) (.inr ⟨_, rfl⟩)) (.s rfl (zL Tryz.zeroValue48 (zr48)) ?_)
 rintro _ _ ⟨b6, hb6, rfl, hH⟩
 obtain rfl := hH.symm
 iterate 5 refine AX ?_
 refine .p rfl (zA Tryz.underlying48 rfl Tryz.sizeOf3 (tm rfl)) ?_
 refine AX ?_
 refine .p rfl (zA Tryz.underlying48 rfl Tryz.sizeOf9 (tm rfl)) ?_
 iterate 2 refine AX ?_
 refine .p rfl (zK (tm rfl) (tm rfl) (by omega)) ?_
 refine AX ?_
 refine .p rfl (zO (tm rfl) (tm rfl) (by omega)) ?_
 iterate 4 refine AX ?_
 refine AWP.draw [(0, true), (1, true), (2, true), (3, true), (5, true), (6, true), (4, false), (7, true), (8, true), (9, true)] rfl (by decide +kernel) ?_
 refine AX ?_
 refine .p rfl rfl (aaE (tm rfl) (by omega)) (.p rfl rfl (aiL (tm rfl) zF) (.p rfl rfl (acC zF (tm rfl)) (.p rfl rfl (zA Tryz.underlying48 rfl Tryz.sizeOf9 (tm rfl)) ?_)))
 refine AX ?_
 refine .s rfl rfl (zH Tryz.call93 (.cons (zR rfl) (evs1 rfl)) (repeatZ 48 _ 0 (by simp only [ayB, imin]; split <;> split <;> omega) (by omega) _)) ?_
 rintro _ _ ⟨rfl, hH⟩
 obtain rfl := hH.symm
 refine .p rfl rfl (yE (tm rfl) (tm rfl) (by rw [zP, List.length_replicate]; omega)) ?_
 iterate 11 refine AX ?_
 refine AWP.cond_true (tm rfl) (by exact decide_eq_true (by omega)) ?_
 refine AWP.draw [(0, true), (1, true), (2, true), (3, true), (4, true), (5, true), (6, true), (7, true), (8, true), (9, true)] rfl (by decide +kernel) ?_
 refine .p rfl rfl (zA Tryz.underlying48 rfl Tryz.sizeOf9 (tm rfl)) ?_
 iterate 2 refine AX ?_
 refine .p rfl rfl (qP Tryz.underlying9 (tm rfl) (tm rfl) (by omega) (by omega)) (.p rfl rfl (zA Tryz.underlying48 rfl Tryz.sizeOf9 (tm rfl)) ?_)
 iterate 2 refine AX ?_
 refine .p rfl rfl (yY Tryz.underlying9 (tm rfl) (tm rfl) (by omega) (by omega)) ?_
 iterate 4 refine AX ?_
 refine AWP.seqToL [(9, .str (if upB (ds.drop n) = true then incD (ds.take n) else ds.take n))] [3, 6, 7, 8] ?_ ?_
 ·iterate 2 refine AX ?_
  refine .p rfl (zA Tryz.underlying48 rfl Tryz.sizeOf4 (tm rfl)) ?_
  iterate 4 refine AX ?_
  refine .cl rfl Tryz.call168 (.cons (tm rfl) (evs3 rfl rfl rfl)) (bfF neg _ _ hdn _) ?_
  iterate 2 refine AX ?_
  refine AWP.cx rfl (fun hc42 => ?_) (fun hc42 => ?_)
  ·iterate 2 refine AX ?_
   refine .cl rfl Tryz.call169 (evs1 rfl) (bdJ (ds.take n) (hd.take n) (by rw [List.length_take]; omega) _) ?_
   iterate 2 refine AX ?_
   exact ⟨rfl, (zW rfl (by (rw [if_pos (show upB (ds.drop n) = true from hc42)]; done)) sX), rfl⟩
  ·refine AX ?_
   exact ⟨rfl, (zW rfl (by (rw [if_neg (show ¬ upB (ds.drop n) = true from by first | exact hc42 | (intro q; rw [show upB (ds.drop n) = false from hc42] at q; cases q))]; rfl)) sX), rfl⟩
 ·refine AWP.sub [(9, _), (3, _), (6, _), (7, _), (8, _)] sX ?_
  iterate 2 refine AX ?_
  refine .p rfl (zA Tryz.underlying48 rfl Tryz.sizeOf4 (tm rfl)) ?_
  iterate 3 refine AX ?_
  refine .cl rfl Tryz.call34 (evs3 rfl rfl rfl) (ajZ neg (if upB (ds.drop n) = true then incD (ds.take n) else ds.take n) _ (by split; exact auO (hd.take n); exact hd.take n) (by split; omega; rw [List.length_take]; omega) (by constructor <;> omega) _) ?_
  iterate 2 refine AX ?_
  refine .e0 (zB Tryz.sizeOf48 (tm rfl) (tm rfl) rfl rfl (.inr ⟨_, rfl⟩) (Heap.objs_set_same _ _ _) (Nat.le_of_ble_eq_true rfl)) ?_
  try first | rw [Heap.set_set] | rw [Heap.set_under (by assumption)]
  iterate 3 refine AX ?_
  refine AWP.frz (t := 6) rfl (hb6) ?_
  refine AX ?_
  refine Ret.go (.cons (.cellI _ _ _ _ rfl Tryz.isAgg48 Tryz.sizeOf48 rfl) (.cons (.tmp _ _ rfl) .nil)) _ (Heap.le.refl _) ?_
  refine ⟨?_, rfl⟩
  rfl

set_option maxRecDepth 100000 in
theorem bjY (neg : Bool) (ds : List UInt8) (e : Int) (n : Nat) (hr : qF ds e = true) (hn : 0 < n) (hn2 : n ≤ 100000) (H : Heap) : ACall Tryz.prog 76 [dA neg ds e, .int .i64 (n : Int), .int .i64 1] H (fun y H' => y = dT (sigD neg ds e n) ∧ H' = H) := by
 have hk1 : (!qF ds e) = false := by rw [hr]; rfl
 have hrl := aaS hr
 have hdd := qW hr
 refine ACall.of_body Tryz.func76 rfl Tryz.ntmps76 Tryz.results76 rfl ?_
 iterate 2 refine AX ?_
 refine .e rfl (yF (tm rfl) (.inr ⟨_, rfl⟩)) (.s rfl (zL Tryz.zeroValue48 (zr48)) ?_)
 rintro _ _ ⟨b6, hb6, rfl, hH⟩
 obtain rfl := hH.symm
 iterate 8 refine AX ?_
 refine .cl rfl Tryz.call60 (evs1 rfl) (aeA neg ds e hdd _) ?_
 iterate 16 refine AX ?_
 refine AWP.cond_false (tm rfl) (by exact decide_eq_false (by omega)) ?_
 iterate 3 refine AX ?_
 refine .p rfl (zA Tryz.underlying48 rfl Tryz.sizeOf9 (tm rfl)) ?_
 iterate 6 refine AX ?_
 refine AWP.cx rfl (fun hc25 => ?_) (fun hc25 => ?_)
 ·iterate 3 refine AX ?_
  refine .e0 (zB Tryz.sizeOf48 (tm rfl) (tm rfl) rfl rfl (.inr ⟨_, rfl⟩) (Heap.objs_set_same _ _ _) (Nat.le_of_ble_eq_true rfl)) ?_
  try first | rw [Heap.set_set] | rw [Heap.set_under (by assumption)]
  iterate 3 refine AX ?_
  refine AWP.frz (t := 6) rfl (hb6) ?_
  iterate 3 refine AX ?_
  refine Ret.go (.cons (.cellI _ _ _ _ rfl Tryz.isAgg48 Tryz.sizeOf48 rfl) (.cons (.tmp _ _ rfl) .nil)) _ (Heap.le.refl _) ?_
  refine ⟨?_, rfl⟩
  unfold sigD
  rw [if_pos (by omega)]; rfl
 ·iterate 8 refine AX ?_
  refine .cl rfl Tryz.call123 (evs3 rfl rfl rfl) (beK neg ds e n hdd hn (by omega) (by omega) (by omega) _) ?_
  iterate 2 refine AX ?_
  refine .e0 (zB Tryz.sizeOf48 (tm rfl) (tm rfl) rfl rfl (.inr ⟨_, rfl⟩) (Heap.objs_set_same _ _ _) (Nat.le_of_ble_eq_true rfl)) ?_
  try first | rw [Heap.set_set] | rw [Heap.set_under (by assumption)]
  iterate 3 refine AX ?_
  refine AWP.frz (t := 6) rfl (hb6) ?_
  refine AX ?_
  refine Ret.go (.cons (.cellI _ _ _ _ rfl Tryz.isAgg48 Tryz.sizeOf48 rfl) (.cons (.tmp _ _ rfl) .nil)) _ (Heap.le.refl _) ?_
  refine ⟨?_, rfl⟩
  unfold sigD
  rw [if_neg (by omega)]; rfl

end Go.Proofs.YtfkeflcdadlmdaaGreatDoor
