import Derived.Test.YtfkeflcdadlmdaaGreatDoorSsk
import Derived.Test.YtfkeflcdadlmdaaGreatDoorX1
import Derived.Test.YtfkeflcdadlmdaaGreatDoorR1
namespace Go.Proofs.YtfkeflcdadlmdaaGreatDoor
open Go Go.RowKit

theorem zr48 : ∀ g, RelCells g [.bool false, .str [], .int .i64 0] (Value.cells (Go.Value.agg #[Go.Value.bool false, Go.Value.string { data := #[] }, Go.Value.int Go.IntKind.i64 0])) := fun g => RelL.cells (.cons (.bool _) (.cons ((.str [] (Nat.zero_le _))) (.cons (.int _ _) .nil)))
theorem pl48 (fs : Array Field) (hfs : Tryz.prog.underlying 48 = some (.struct fs)) : ∀ (i : Nat) f p, fs[i]? = some f → [(0, 1), (1, 1), (2, 1)][i]? = some p → ∀ w, (sizeOf f.type).run Tryz.prog w = .ok p.2 w := by
 have e := (Option.some.inj (hfs.symm.trans Tryz.underlying48))
 cases e
 intro i f p hf hp w
 match i with
 | 0 => cases hf; cases hp; exact Tryz.sizeOf4 w
 | 1 => cases hf; cases hp; exact Tryz.sizeOf9 w
 | 2 => cases hf; cases hp; exact Tryz.sizeOf3 w
 | i + 3 => simp at hp

theorem bfZ {s : List UInt8} {p : Nat} (h : p < s.length) (ha : (s.getD p 0).toNat < 128) : Utf8.decode ⟨s.toArray⟩ p = ((s.getD p 0).toNat, 1) := by
 have hb : (⟨s.toArray⟩ : ByteArray).get! (p + 0) = s.getD p 0 := by
  rw [Nat.add_zero, List.getD_eq_getElem?_getD, List.getElem?_eq_getElem h]
  show s.toArray[p]! = _
  simp [h]
 unfold Utf8.decode
 simp only [hb]
 rw [if_pos ha]
theorem Digs.at {s : List UInt8} (hd : Digs s) {p : Nat} (h : p < s.length) : 48 ≤ (s.getD p 0).toNat ∧ (s.getD p 0).toNat ≤ 57 := by
 rw [List.getD_eq_getElem?_getD, List.getElem?_eq_getElem h]
 exact hd _ (List.getElem_mem h)
def digC (b : UInt8) : Bool := decide ((48 : Int) ≤ ((b.toNat : Nat) : Int)) && decide (((b.toNat : Nat) : Int) ≤ 57)
theorem bfY {ds : List UInt8} {i : Nat} (hi : i < ds.length) (h : aoW (ds.take i) = true) : aoW (ds.take (i + 1)) = digC (ds.getD i 0) := by
 unfold aoW at *
 rw [← List.take_append_getElem hi, List.all_append, h, List.getD_eq_getElem?_getD, List.getElem?_eq_getElem hi]
 simp only [List.all_cons, List.all_nil, Bool.and_true, Bool.true_and, digC, Option.getD_some]
 congr 1
 ·exact decide_eq_decide.2 (by omega)
 ·exact decide_eq_decide.2 (by omega)
theorem asZ {ds : List UInt8} {i : Nat} (h : aoW ds = true) : aoW (ds.take i) = true := by
 unfold aoW at *
 rw [List.all_eq_true] at h ⊢
 exact fun x hx => h x (List.mem_of_mem_take hx)
theorem bcM {ds : List UInt8} (h : 0 < ds.length) : Lib.hasSuffix ds [48] = decide (ds.getD (ds.length - 1) 0 = 48) := by
 unfold Lib.hasSuffix
 have e : ds = ds.take (ds.length - 1) ++ [ds.getD (ds.length - 1) 0] := by
  have hl : ds.length - 1 < ds.length := by omega
  rw [List.getD_eq_getElem?_getD, List.getElem?_eq_getElem hl, Option.getD_some, List.take_append_getElem hl, List.take_of_length_le (by omega)]
 by_cases hq : ds.getD (ds.length - 1) 0 = 48
 ·rw [decide_eq_true hq]
  rw [hq] at e
  rw [List.isSuffixOf_iff_suffix]
  exact ⟨_, e.symm⟩
 ·rw [decide_eq_false hq]
  cases hs : [48].isSuffixOf ds with
  | false => rfl
  | true =>
   rw [List.isSuffixOf_iff_suffix] at hs
   obtain ⟨u, hu⟩ := hs
   exfalso; apply hq
   rw [← hu]; simp
theorem aqP {b : UInt8} (k : Nat) (hk : k < 256) : decide (((b.toNat : Nat) : Int) = (k : Int)) = decide (b = UInt8.ofNat k) := by
 apply decide_eq_decide.2
 constructor
 ·intro h; apply UInt8.toNat_inj.1; rw [UInt8.toNat_ofNat']; omega
 ·intro h; rw [h, UInt8.toNat_ofNat']; omega
def alC (ds : List UInt8) (e : Int) : Bool := decide ((ds.length : Int) ≤ 1100) && decide (-100000 ≤ e) && decide (e ≤ 100000) && decide (((ds.getD 0 0).toNat : Int) ≠ 48) && !decide (((ds.getD (ds.length - 1) 0).toNat : Int) = 48)
theorem alB {ds : List UInt8} {e : Int} (h : ds ≠ []) : qE ds e = (alC ds e && aoW ds) := by
 unfold qE alC
 rw [if_neg h]
 have e1 := aqP (b := ds.getD 0 0) 48 (by decide)
 have e2 := aqP (b := ds.getD (ds.length - 1) 0) 48 (by decide)
 have e3 : decide ((ds.length : Int) ≤ 1100) = decide (ds.length ≤ 1100) := decide_eq_decide.2 (by omega)
 have e4 : decide (((ds.getD 0 0).toNat : Int) ≠ 48) = !decide (ds.getD 0 0 = UInt8.ofNat 48) := by rw [← e1]; exact decide_not
 rw [e3, e4, show decide (((ds.getD (ds.length - 1) 0).toNat : Int) = 48) = decide (ds.getD (ds.length - 1) 0 = UInt8.ofNat 48) from e2]
 show _ = (_ && _ && _ && !decide (ds.getD 0 0 = 48) && !decide (ds.getD (ds.length - 1) 0 = 48) && aoW ds)
 generalize decide (ds.length ≤ 1100) = a1
 generalize decide (-100000 ≤ e) = a2
 generalize decide (e ≤ 100000) = a3
 generalize aoW ds = a4
 generalize decide (ds.getD 0 0 = 48) = a5
 generalize decide (ds.getD (ds.length - 1) 0 = 48) = a6
 cases a1 <;> cases a2 <;> cases a3 <;> cases a4 <;> cases a5 <;> cases a6 <;> rfl

def bdX (s : List UInt8) (b : Nat) (H : Heap) : Nat → Env → Heap → Prop := fun k env H1 => ∃ p : Nat, p ≤ s.length ∧ env = [(6, .ptr (some ⟨b, 0, none⟩))] ∧ H1 = H.set b (.raw (.stringIter ⟨s.toArray⟩ p)) ∧ k = s.length - p

set_option maxRecDepth 100000 in
theorem alR (s : List UInt8) (hd : Digs s) (H : Heap) : ACall Tryz.prog 67 [.str s] H (fun y H' => y = .bool true ∧ H' = H) := by
 refine ACall.of_body Tryz.func67 rfl Tryz.ntmps67 Tryz.results67 rfl ?_
 refine .sr (.p rfl (zB zL) (.ng (.seq (.sr (.mv rfl rfl (.s rfl (ayU Tryz.underlying9 (tm rfl)) ?_))))))
 rintro _ _ ⟨b6, rfl, hb6, hH⟩
 obtain rfl := hH.symm
 refine .ng (.block ?_)
 refine AWP.loopW (bdX s b6 H) (s.length) ⟨0, Nat.zero_le _, rfl, rfl, rfl⟩ (zA rfl zK) (Heap.le.refl _) ?_
 rintro _ _ _ ⟨p, hp, rfl, rfl, hk⟩
 refine .sr (.s rfl (bcO (tm rfl) (Heap.objs_set_same _ _ _)) ?_)
 rintro _ Hn ⟨q7, rfl, hn7, hm7⟩
 refine .p rfl (zC (tm rfl) rfl) (.ng (.seq ?_))
 refine AWP.cond (tm rfl) (fun hc8 => ?_) (fun hc8 => ?_)
 ·try simp only [decide_eq_true_eq] at hc8
  obtain ⟨rfl, rfl⟩ := hn7 (by omega)
  have hda := hd.at (show p < s.length by omega)
  rw [bfZ (by omega) (by omega)]
  refine .skip ?_
  refine Next.go ?_
  refine .block (.sr (.p rfl (zC (tm rfl) rfl) (.as rfl rfl (.ng ?_))))
  refine AWP.seqTo 15 (.bool (false)) [6] ?_ ?_
  ·-- region 4
   refine .region (.mv rfl rfl (.p rfl (zZ (tm rfl) zD) (.mv rfl rfl ?_)))
   refine zP (t := 12) rfl (fun hg12 => ?_) (fun hg12 => ?_)
   ·refine .gn rfl rfl rfl (by assumption) (.gn rfl rfl rfl (by assumption) (.p rfl (zO (tm rfl) (by assumption) zL) (.nil ?_)))
    exact ⟨rfl, yP rfl (by (exfalso; have := of_decide_eq_true hg12; omega)) (zA rfl zK), rfl⟩
   ·refine .gp rfl rfl rfl (by assumption) (zE (tm rfl)) (.gp rfl rfl rfl (by assumption) (yC (tm rfl) zD) (.p rfl (zM (tm rfl) (by assumption) (tm rfl)) (.nil ?_)))
    exact ⟨rfl, yP rfl (by (congr 1; exact decide_eq_false (by omega))) (zA rfl zK), rfl⟩
  ·refine AWP.sub [(15, _), (6, _)] (zA rfl (zA rfl zK)) ?_
   refine AWP.cond_false (tm rfl) (by rfl) ?_
   refine .skip ?_
   refine Block.go ?_
   refine Next.go ?_
   refine Round.mk (J := bdX s b6 H) ⟨p + 1, by omega, rfl, by rw [Heap.set_set], rfl⟩ (zA rfl zK) (Heap.le.refl _) (by omega)
 ·try simp only [decide_eq_false_iff_not] at hc8
  obtain ⟨rfl, rfl⟩ := hm7 (by omega)
  refine .exit ?_
  refine Next.ex ?_
  refine Next.ex ?_
  refine Block.hit ?_
  refine Next.go ?_
  refine .sr (.p rfl (zB zL) (.ng (.ret ?_)))
  refine Ret.go (.cons (.tmp _ _ rfl) .nil) _ (Heap.le_set hb6 _) ?_
  exact ⟨rfl, rfl⟩

set_option maxRecDepth 100000 in
theorem adR (neg : Bool) (ds : List UInt8) (e : Int) (hd : Digs ds) (H : Heap) : ACall Tryz.prog 60 [dA neg ds e] H (fun y H' => y = .bool (qE ds e) ∧ H' = H) := by
 refine ACall.of_body Tryz.func60 rfl Tryz.ntmps60 Tryz.results60 rfl ?_
 refine .sr (.e rfl (yU (tm rfl) (.inr ⟨_, rfl⟩)) (.p rfl (zB zL) (.ng (.seq (.sr (.p rfl (zG Tryz.underlying48 rfl Tryz.sizeOf9 (tm rfl)) (.p rfl (zF Tryz.isAgg9 (tm rfl)) (.p rfl (qN (tm rfl) (zU rfl)) ?_))))))))
 refine .ng ?_
 refine AWP.cond (tm rfl) (fun hc5 => ?_) (fun hc5 => ?_)
 ·try simp only [decide_eq_true_eq] at hc5
  refine .sr (.p rfl (zG Tryz.underlying48 rfl Tryz.sizeOf3 (tm rfl)) (.p rfl (zF Tryz.isAgg3 (tm rfl)) (.p rfl (zX (tm rfl) zD) (.as rfl rfl (.ng (.ret ?_))))))
  refine Next.rt ?_
  refine Ret.go (.cons (.tmp _ _ rfl) .nil) _ (Heap.le.refl _) ?_
  refine ⟨?_, rfl⟩
  unfold qE
  rw [if_pos hc5]; rfl
 ·try simp only [decide_eq_false_iff_not] at hc5
  have hlp : 0 < ds.length := List.length_pos_iff.2 hc5
  have hsuf := (bcM hlp).trans (aqP (b := ds.getD (ds.length - 1) 0) 48 (by decide)).symm
  refine .skip ?_
  refine Next.go ?_
  refine AWP.seqTo 2 (.bool (decide ((ds.length : Int) ≤ 1100) && decide (-100000 ≤ e) && decide (e ≤ 100000) && true && decide (((ds.getD 0 0).toNat : Int) ≠ 48) && !(Lib.hasSuffix ds [48]))) [] ?_ ?_
  ·-- region 3
   refine .region (.p rfl (zG Tryz.underlying48 rfl Tryz.sizeOf9 (tm rfl)) (.p rfl (zF Tryz.isAgg9 (tm rfl)) (.p rfl (yF Tryz.underlying9 (tm rfl)) (.p rfl (abJ (tm rfl) zD) (.mv rfl rfl ?_)))))
   refine zP (t := 13) rfl (fun hg13 => ?_) (fun hg13 => ?_)
   ·have hh13 := hg13; try simp only [decide_eq_true_eq] at hh13
    refine .gp rfl rfl rfl (by assumption) (zG Tryz.underlying48 rfl Tryz.sizeOf3 (tm rfl)) (.gp rfl rfl rfl (by assumption) (zF Tryz.isAgg3 (tm rfl)) (.gp rfl rfl rfl (by assumption) (yW (tm rfl) zD) (.p rfl (zO (tm rfl) (by assumption) (tm rfl)) (.mv rfl rfl ?_))))
    refine zP (t := 18) rfl (fun hg18 => ?_) (fun hg18 => ?_)
    ·have hh18 := hg18; try simp only [decide_eq_true_eq] at hh18
     refine .gp rfl rfl rfl (by assumption) (zG Tryz.underlying48 rfl Tryz.sizeOf3 (tm rfl)) (.gp rfl rfl rfl (by assumption) (zF Tryz.isAgg3 (tm rfl)) (.gp rfl rfl rfl (by assumption) (abJ (tm rfl) zD) (.p rfl (zO (tm rfl) (by assumption) (tm rfl)) (.mv rfl rfl ?_))))
     refine zP (t := 23) rfl (fun hg23 => ?_) (fun hg23 => ?_)
     ·have hh23 := hg23; try simp only [decide_eq_true_eq] at hh23
      refine .gp rfl rfl rfl (by assumption) (zG Tryz.underlying48 rfl Tryz.sizeOf9 (tm rfl)) (.gp rfl rfl rfl (by assumption) (zF Tryz.isAgg9 (tm rfl)) (.gs rfl rfl rfl (by assumption) (zQ Tryz.call67 (evs1 rfl) (alR _ hd _)) ?_))
      rintro _ _ ⟨rfl, hH⟩
      obtain rfl := hH.symm
      refine .p rfl (zO (tm rfl) (by assumption) (tm rfl)) (.mv rfl rfl ?_)
      refine zP (t := 28) rfl (fun hg28 => ?_) (fun hg28 => ?_)
      ·have hh28 := hg28; try simp only [] at hh28
       refine .gp rfl rfl rfl (by rfl) (zG Tryz.underlying48 rfl Tryz.sizeOf9 (tm rfl)) (.gp rfl rfl rfl (by rfl) (zF Tryz.isAgg9 (tm rfl)) (.gp rfl rfl rfl (by rfl) (qL Tryz.underlying9 (tm rfl) zD (by omega) (by omega)) (.gp rfl rfl rfl (by rfl) (aaO (tm rfl) zD) (.p rfl (zO (tm rfl) (by rfl) (tm rfl)) (.mv rfl rfl ?_)))))
       refine zP (t := 34) rfl (fun hg34 => ?_) (fun hg34 => ?_)
       ·have hh34 := hg34; try simp only [decide_eq_true_eq, ne_eq] at hh34
        refine .gp rfl rfl rfl (by assumption) (zG Tryz.underlying48 rfl Tryz.sizeOf9 (tm rfl)) (.gp rfl rfl rfl (by assumption) (zF Tryz.isAgg9 (tm rfl)) (.gs rfl rfl rfl (by assumption) (zQ Tryz.call94 (.cons (tm rfl) (.cons (zU rfl) .nil)) (hasSuffixA _ _ _)) ?_))
        rintro _ _ ⟨rfl, hH⟩
        obtain rfl := hH.symm
        refine .gp rfl rfl rfl (by assumption) (qO (tm rfl)) (.p rfl (zO (tm rfl) (by assumption) (tm rfl)) (.as rfl rfl (.nil ?_)))
        exact ⟨rfl, yP rfl (by simp_all) zK, rfl⟩
       ·have hh34 := hg34; try simp only [decide_eq_false_iff_not, ne_eq, Decidable.not_not] at hh34
        refine .gn rfl rfl rfl (by assumption) (.gn rfl rfl rfl (by assumption) (.gn rfl rfl rfl (by assumption) (.gn rfl rfl rfl (by assumption) (.p rfl (zM (tm rfl) (by assumption) zL) (.as rfl rfl (.nil ?_))))))
        exact ⟨rfl, yP rfl (by simp_all) zK, rfl⟩
      ·have hh28 := hg28; try simp only [decide_eq_true_eq, decide_eq_false_iff_not, Bool.not_eq_true', Bool.not_eq_false', Int.not_lt, Int.not_le, ne_eq, Decidable.not_not] at hh28
       refine .gn rfl rfl rfl (by assumption) (.gn rfl rfl rfl (by assumption) (.gn rfl rfl rfl (by assumption) (.gn rfl rfl rfl (by assumption) (.p rfl (zM (tm rfl) (by assumption) zL) (.mv rfl rfl (.gn rfl rfl rfl (by rfl) (.gn rfl rfl rfl (by rfl) (.gn rfl rfl rfl (by rfl) ?_))))))))
       refine .gn rfl rfl rfl (by rfl) (.p rfl (zM (tm rfl) (by rfl) zL) (.as rfl rfl (.nil ?_)))
       exact ⟨rfl, yP rfl (by (simp [*]; done)) zK, rfl⟩
     ·have hh23 := hg23; try simp only [decide_eq_false_iff_not, Int.not_le] at hh23
      refine .gn rfl rfl rfl (by assumption) (.gn rfl rfl rfl (by assumption) (.gn rfl rfl rfl (by assumption) (.p rfl (zM (tm rfl) (by assumption) zL) (.mv rfl rfl (.gn rfl rfl rfl (by rfl) (.gn rfl rfl rfl (by rfl) (.gn rfl rfl rfl (by rfl) (.gn rfl rfl rfl (by rfl) ?_))))))))
      refine .p rfl (zM (tm rfl) (by rfl) zL) (.mv rfl rfl (.gn rfl rfl rfl (by rfl) (.gn rfl rfl rfl (by rfl) (.gn rfl rfl rfl (by rfl) (.gn rfl rfl rfl (by rfl) (.p rfl (zM (tm rfl) (by rfl) zL) (.as rfl rfl (.nil ?_))))))))
      exact ⟨rfl, yP rfl (by (simp [*]; done)) zK, rfl⟩
    ·have hh18 := hg18; try simp only [decide_eq_false_iff_not, Int.not_le] at hh18
     refine .gn rfl rfl rfl (by assumption) (.gn rfl rfl rfl (by assumption) (.gn rfl rfl rfl (by assumption) (.p rfl (zM (tm rfl) (by assumption) zL) (.mv rfl rfl (.gn rfl rfl rfl (by rfl) (.gn rfl rfl rfl (by rfl) (.gn rfl rfl rfl (by rfl) (.p rfl (zM (tm rfl) (by rfl) zL) ?_))))))))
     refine .mv rfl rfl (.gn rfl rfl rfl (by rfl) (.gn rfl rfl rfl (by rfl) (.gn rfl rfl rfl (by rfl) (.gn rfl rfl rfl (by rfl) (.p rfl (zM (tm rfl) (by rfl) zL) (.mv rfl rfl (.gn rfl rfl rfl (by rfl) (.gn rfl rfl rfl (by rfl) ?_))))))))
     refine .gn rfl rfl rfl (by rfl) (.gn rfl rfl rfl (by rfl) (.p rfl (zM (tm rfl) (by rfl) zL) (.as rfl rfl (.nil ?_))))
     exact ⟨rfl, yP rfl (by (simp [*]; done)) zK, rfl⟩
   ·have hh13 := hg13; try simp only [decide_eq_false_iff_not, Int.not_le] at hh13
    refine .gn rfl rfl rfl (by assumption) (.gn rfl rfl rfl (by assumption) (.gn rfl rfl rfl (by assumption) (.p rfl (zM (tm rfl) (by assumption) zL) (.mv rfl rfl (.gn rfl rfl rfl (by rfl) (.gn rfl rfl rfl (by rfl) (.gn rfl rfl rfl (by rfl) (.p rfl (zM (tm rfl) (by rfl) zL) ?_))))))))
    refine .mv rfl rfl (.gn rfl rfl rfl (by rfl) (.gn rfl rfl rfl (by rfl) (.gn rfl rfl rfl (by rfl) (.p rfl (zM (tm rfl) (by rfl) zL) (.mv rfl rfl (.gn rfl rfl rfl (by rfl) (.gn rfl rfl rfl (by rfl) (.gn rfl rfl rfl (by rfl) ?_))))))))
    refine .gn rfl rfl rfl (by rfl) (.p rfl (zM (tm rfl) (by rfl) zL) (.mv rfl rfl (.gn rfl rfl rfl (by rfl) (.gn rfl rfl rfl (by rfl) (.gn rfl rfl rfl (by rfl) (.gn rfl rfl rfl (by rfl) (.p rfl (zM (tm rfl) (by rfl) zL) (.as rfl rfl ?_))))))))
    refine .nil ?_
    exact ⟨rfl, yP rfl (by (simp [*]; done)) zK, rfl⟩
  ·refine AWP.sub [(2, _)] (zA rfl zK) ?_
   refine .ret ?_
   refine Ret.go (.cons (.tmp _ _ rfl) .nil) _ (Heap.le.refl _) ?_
   refine ⟨?_, rfl⟩
   simp only [yZ]
   rw [alB hc5, acP.2 hd, hsuf, Bool.and_true, Bool.and_true]; rfl

def afF (ds : List UInt8) (e : Int) : Int := if qE ds e then (ds.length : Int) + e else 0
theorem azE (ds : List UInt8) (e : Int) : (decide ((1100 : Int) < (ds.length : Int)) || decide (e < -100000) || decide ((100000 : Int) < e) || decide (((ds.getD 0 0).toNat : Int) = 48) || decide (((ds.getD (ds.length - 1) 0).toNat : Int) = 48)) = !alC ds e := by
 unfold alC
 rw [show decide ((1100 : Int) < (ds.length : Int)) = !decide ((ds.length : Int) ≤ 1100) by rw [← decide_not]; exact decide_eq_decide.2 (by omega),
   show decide (e < -100000) = !decide (-100000 ≤ e) by rw [← decide_not]; exact decide_eq_decide.2 (by omega), show decide ((100000 : Int) < e) = !decide (e ≤ 100000) by rw [← decide_not]; exact decide_eq_decide.2 (by omega),
   show decide (((ds.getD 0 0).toNat : Int) ≠ 48) = !decide (((ds.getD 0 0).toNat : Int) = 48) from decide_not]
 generalize decide ((ds.length : Int) ≤ 1100) = a1
 generalize decide (-100000 ≤ e) = a2
 generalize decide (e ≤ 100000) = a3
 generalize decide (((ds.getD 0 0).toNat : Int) = 48) = a5
 generalize decide (((ds.getD (ds.length - 1) 0).toNat : Int) = 48) = a6
 cases a1 <;> cases a2 <;> cases a3 <;> cases a5 <;> cases a6 <;> rfl

set_option maxRecDepth 100000 in
theorem ahG (neg : Bool) (ds : List UInt8) (e : Int) (hd : Digs ds) (H : Heap) : ACall Tryz.prog 43 [dA neg ds e] H (fun y H' => y = .int .i64 (afF ds e) ∧ H' = H) := by
 refine ACall.of_body Tryz.func43 rfl Tryz.ntmps43 Tryz.results43 rfl ?_
 refine .sr (.e rfl (yU (tm rfl) (.inr ⟨_, rfl⟩)) (.p rfl (zB zD) (.ng (.seq (.sr (.p rfl (zY Tryz.isAgg48 Tryz.sizeOf48 (tm rfl) (Nat.le_of_ble_eq_true rfl)) (.cl rfl Tryz.call60 (evs1 rfl) (adR neg ds e hd _) (.p rfl (qO (tm rfl)) ?_))))))))
 refine .ng ?_
 refine AWP.cond (tm rfl) (fun hc5 => ?_) (fun hc5 => ?_)
 ·try simp only [Bool.not_eq_true'] at hc5
  refine .sr (.p rfl (zB zD) (.ng (.ret ?_)))
  refine Next.rt ?_
  refine Ret.go (.cons (.tmp _ _ rfl) .nil) _ (Heap.le.refl _) ?_
  refine ⟨?_, rfl⟩
  unfold afF
  rw [if_neg (by simp [hc5])]; rfl
 ·try simp only [Bool.not_eq_false'] at hc5
  have hrl := aaL (show qE ds e = true from by simpa using hc5)
  refine .skip ?_
  refine Next.go ?_
  refine .sr (.p rfl (zG Tryz.underlying48 rfl Tryz.sizeOf9 (tm rfl)) (.p rfl (zF Tryz.isAgg9 (tm rfl)) (.p rfl (yF Tryz.underlying9 (tm rfl)) (.p rfl (zG Tryz.underlying48 rfl Tryz.sizeOf3 (tm rfl)) (.p rfl (zF Tryz.isAgg3 (tm rfl)) (.p rfl (zS (tm rfl) (tm rfl) (by omega)) (.as rfl rfl (.ng ?_))))))))
  refine .ret ?_
  refine Ret.go (.cons (.tmp _ _ rfl) .nil) _ (Heap.le.refl _) ?_
  refine ⟨?_, rfl⟩
  unfold afF
  rw [if_pos (by simpa using hc5)]; rfl

set_option maxRecDepth 100000 in
theorem ajG (b : UInt8) (H : Heap) : ACall Tryz.prog 58 [.int .u8 ((b.toNat : Nat) : Int)] H (fun y H' => y = .bool (digC b) ∧ H' = H) := by
 refine ACall.of_body Tryz.func58 rfl Tryz.ntmps58 Tryz.results58 rfl ?_
 refine .sr (.p rfl (zB zL) (.ng ?_))
 refine AWP.seqTo 2 (.bool (digC b)) [] ?_ ?_
 ·-- region 1
  refine .region (.mv rfl rfl (.p rfl (yW (tm rfl) zD) (.mv rfl rfl ?_)))
  refine zP (t := 5) rfl (fun hg5 => ?_) (fun hg5 => ?_)
  ·have hh5 := hg5; try simp only [decide_eq_true_eq] at hh5
   refine .gp rfl rfl rfl (by assumption) (zE (tm rfl)) (.gp rfl rfl rfl (by assumption) (abJ (tm rfl) zD) (.p rfl (zO (tm rfl) (by assumption) (tm rfl)) (.as rfl rfl (.nil ?_))))
   exact ⟨rfl, yP rfl (by (unfold digC; rw [show decide ((48 : Int) ≤ ((b.toNat : Nat) : Int)) = _ from hg5]; rfl)) zK, rfl⟩
  ·have hh5 := hg5; try simp only [decide_eq_false_iff_not, Int.not_le] at hh5
   refine .gn rfl rfl rfl (by assumption) (.gn rfl rfl rfl (by assumption) (.p rfl (zM (tm rfl) (by assumption) zL) (.as rfl rfl (.nil ?_))))
   exact ⟨rfl, yP rfl (by (unfold digC; rw [show decide ((48 : Int) ≤ ((b.toNat : Nat) : Int)) = _ from hg5]; rfl)) zK, rfl⟩
 ·refine AWP.sub [(2, _)] (zA rfl zK) ?_
  refine .ret ?_
  refine Ret.go (.cons (.tmp _ _ rfl) .nil) _ (Heap.le.refl _) ?_
  exact ⟨rfl, rfl⟩

def awW (neg : Bool) (ds : List UInt8) (e : Int) (H : Heap) : Nat → Env → Heap → Prop := fun k env H1 => ∃ i : Nat, i ≤ ds.length ∧ aoW (ds.take i) = true ∧ env = [(1, .iptr [.bool neg, .str ds, .int .i64 e]), (3, .int .i64 (ds.length : Int)), (4, .int .i64 (i : Int))] ∧ H = H1 ∧ k = ds.length - i

set_option maxRecDepth 100000 in
theorem ajK (neg : Bool) (ds : List UInt8) (e : Int) (hl : ds.length ≤ maxLen) (H : Heap) : ACall Tryz.prog 19 [dA neg ds e] H (fun y H' => y = .bool (qE ds e) ∧ H' = H) := by
 rw [yB] at hl
 refine ACall.of_body Tryz.func19 rfl Tryz.ntmps19 Tryz.results19 rfl ?_
 refine .sr (.e rfl (yU (tm rfl) (.inr ⟨_, rfl⟩)) (.p rfl (zB zL) (.nr (.p rfl (zG Tryz.underlying48 rfl Tryz.sizeOf9 (tm rfl)) (.p rfl (zF Tryz.isAgg9 (tm rfl)) (.p rfl (yF Tryz.underlying9 (tm rfl)) (.as rfl rfl (.ng ?_))))))))
 refine .seq (.sr (.mv rfl rfl (.p rfl (zX (tm rfl) zD) (.ng ?_))))
 refine AWP.cond (tm rfl) (fun hc10 => ?_) (fun hc10 => ?_)
 ·try simp only [decide_eq_true_eq] at hc10
  refine .sr (.p rfl (zG Tryz.underlying48 rfl Tryz.sizeOf3 (tm rfl)) (.p rfl (zF Tryz.isAgg3 (tm rfl)) (.p rfl (zX (tm rfl) zD) (.as rfl rfl (.ng (.ret ?_))))))
  refine Next.rt ?_
  refine Ret.go (.cons (.tmp _ _ rfl) .nil) _ (Heap.le.refl _) ?_
  refine ⟨?_, rfl⟩
  have h0 : ds = [] := List.length_eq_zero_iff.1 (by omega)
  unfold qE
  rw [if_pos h0]; rfl
 ·try simp only [decide_eq_false_iff_not] at hc10
  have hlp : 0 < ds.length := by omega
  have hne := List.length_pos_iff.1 hlp
  have hrq := alB (e := e) hne
  have hrn := azE ds e
  refine .skip ?_
  refine Next.go ?_
  refine .seq ?_
  refine AWP.seqTo 39 (.bool ((decide ((1100 : Int) < (ds.length : Int)) || decide (e < -100000) || decide ((100000 : Int) < e) || decide (((ds.getD 0 0).toNat : Int) = 48) || decide (((ds.getD (ds.length - 1) 0).toNat : Int) = 48)))) [1, 2, 3] ?_ ?_
  ·-- region 4
   refine .region (.mv rfl rfl (.p rfl (yC (tm rfl) zD) (.mv rfl rfl ?_)))
   refine zP (t := 16) rfl (fun hg16 => ?_) (fun hg16 => ?_)
   ·have hh16 := hg16; try simp only [decide_eq_true_eq] at hh16
    refine .gn rfl rfl rfl (by assumption) (.gn rfl rfl rfl (by assumption) (.gn rfl rfl rfl (by assumption) (.p rfl (zO (tm rfl) (by assumption) zL) (.mv rfl rfl (.gn rfl rfl rfl (by rfl) (.gn rfl rfl rfl (by rfl) (.gn rfl rfl rfl (by rfl) (.p rfl (zO (tm rfl) (by rfl) zL) ?_))))))))
    refine .mv rfl rfl (.gn rfl rfl rfl (by rfl) (.gn rfl rfl rfl (by rfl) (.gn rfl rfl rfl (by rfl) (.gn rfl rfl rfl (by rfl) (.p rfl (zO (tm rfl) (by rfl) zL) (.mv rfl rfl (.gn rfl rfl rfl (by rfl) (.gn rfl rfl rfl (by rfl) ?_))))))))
    refine .gn rfl rfl rfl (by rfl) (.gn rfl rfl rfl (by rfl) (.gn rfl rfl rfl (by rfl) (.gn rfl rfl rfl (by rfl) (.p rfl (zO (tm rfl) (by rfl) zL) (.nil ?_)))))
    exact ⟨rfl, yP rfl (by (rw [show decide ((1100 : Int) < (ds.length : Int)) = _ from hg16]; rfl)) (zA rfl (zA rfl (zA rfl zK))), rfl⟩
   ·have hh16 := hg16; try simp only [decide_eq_false_iff_not, Int.not_lt] at hh16
    refine .gp rfl rfl rfl (by assumption) (zG Tryz.underlying48 rfl Tryz.sizeOf3 (tm rfl)) (.gp rfl rfl rfl (by assumption) (zF Tryz.isAgg3 (tm rfl)) (.gp rfl rfl rfl (by assumption) (zZ (tm rfl) zD) (.p rfl (zM (tm rfl) (by assumption) (tm rfl)) (.mv rfl rfl ?_))))
    refine zP (t := 21) rfl (fun hg21 => ?_) (fun hg21 => ?_)
    ·have hh21 := hg21; try simp only [decide_eq_true_eq] at hh21
     refine .gn rfl rfl rfl (by assumption) (.gn rfl rfl rfl (by assumption) (.gn rfl rfl rfl (by assumption) (.p rfl (zO (tm rfl) (by assumption) zL) (.mv rfl rfl (.gn rfl rfl rfl (by rfl) (.gn rfl rfl rfl (by rfl) (.gn rfl rfl rfl (by rfl) (.gn rfl rfl rfl (by rfl) ?_))))))))
     refine .p rfl (zO (tm rfl) (by rfl) zL) (.mv rfl rfl (.gn rfl rfl rfl (by rfl) (.gn rfl rfl rfl (by rfl) (.gn rfl rfl rfl (by rfl) (.gn rfl rfl rfl (by rfl) (.gn rfl rfl rfl (by rfl) (.gn rfl rfl rfl (by rfl) (.p rfl (zO (tm rfl) (by rfl) zL) ?_))))))))
     refine .nil ?_
     exact ⟨rfl, yP rfl (by (rw [show decide ((1100 : Int) < (ds.length : Int)) = _ from hg16, show decide (e < -100000) = _ from hg21]; rfl)) (zA rfl (zA rfl (zA rfl zK))), rfl⟩
    ·have hh21 := hg21; try simp only [decide_eq_false_iff_not, Int.not_lt] at hh21
     refine .gp rfl rfl rfl (by assumption) (zG Tryz.underlying48 rfl Tryz.sizeOf3 (tm rfl)) (.gp rfl rfl rfl (by assumption) (zF Tryz.isAgg3 (tm rfl)) (.gp rfl rfl rfl (by assumption) (yC (tm rfl) zD) (.p rfl (zM (tm rfl) (by assumption) (tm rfl)) (.mv rfl rfl ?_))))
     refine zP (t := 26) rfl (fun hg26 => ?_) (fun hg26 => ?_)
     ·have hh26 := hg26; try simp only [decide_eq_true_eq] at hh26
      refine .gn rfl rfl rfl (by assumption) (.gn rfl rfl rfl (by assumption) (.gn rfl rfl rfl (by assumption) (.gn rfl rfl rfl (by assumption) (.p rfl (zO (tm rfl) (by assumption) zL) (.mv rfl rfl (.gn rfl rfl rfl (by rfl) (.gn rfl rfl rfl (by rfl) (.gn rfl rfl rfl (by rfl) ?_))))))))
      refine .gn rfl rfl rfl (by rfl) (.gn rfl rfl rfl (by rfl) (.gn rfl rfl rfl (by rfl) (.p rfl (zO (tm rfl) (by rfl) zL) (.nil ?_))))
      exact ⟨rfl, yP rfl (by (rw [show decide ((1100 : Int) < (ds.length : Int)) = _ from hg16, show decide (e < -100000) = _ from hg21, show decide ((100000 : Int) < e) = _ from hg26]; rfl)) (zA rfl (zA rfl (zA rfl zK))), rfl⟩
     ·have hh26 := hg26; try simp only [decide_eq_false_iff_not, Int.not_lt] at hh26
      refine .gp rfl rfl rfl (by assumption) (zG Tryz.underlying48 rfl Tryz.sizeOf9 (tm rfl)) (.gp rfl rfl rfl (by assumption) (zF Tryz.isAgg9 (tm rfl)) (.gp rfl rfl rfl (by assumption) (qL Tryz.underlying9 (tm rfl) zD (by omega) (by omega)) (.gp rfl rfl rfl (by assumption) (zX (tm rfl) zD) (.p rfl (zM (tm rfl) (by assumption) (tm rfl)) (.mv rfl rfl ?_)))))
      refine zP (t := 32) rfl (fun hg32 => ?_) (fun hg32 => ?_)
      ·have hh32 := hg32; try simp only [decide_eq_true_eq] at hh32
       refine .gn rfl rfl rfl (by assumption) (.gn rfl rfl rfl (by assumption) (.gn rfl rfl rfl (by assumption) (.gn rfl rfl rfl (by assumption) (.gn rfl rfl rfl (by assumption) (.gn rfl rfl rfl (by assumption) (.p rfl (zO (tm rfl) (by assumption) zL) (.nil ?_)))))))
       exact ⟨rfl, yP rfl (by (rw [show decide ((1100 : Int) < (ds.length : Int)) = _ from hg16, show decide (e < -100000) = _ from hg21, show decide ((100000 : Int) < e) = _ from hg26, show decide (((ds.getD 0 0).toNat : Int) = 48) = _ from hg32]; rfl)) (zA rfl (zA rfl (zA rfl zK))), rfl⟩
      ·have hh32 := hg32; try simp only [decide_eq_false_iff_not] at hh32
       refine .gp rfl rfl rfl (by assumption) (zG Tryz.underlying48 rfl Tryz.sizeOf9 (tm rfl)) (.gp rfl rfl rfl (by assumption) (zF Tryz.isAgg9 (tm rfl)) (.gp rfl rfl rfl (by assumption) (zE (tm rfl)) (.gp rfl rfl rfl (by assumption) (zW (tm rfl) zD (by omega)) (.gp rfl rfl rfl (by assumption) (qL Tryz.underlying9 (tm rfl) (tm rfl) (by omega) (by omega)) (.gp rfl rfl rfl (by assumption) (zX (tm rfl) zD) (.p rfl (zM (tm rfl) (by assumption) (tm rfl)) (.nil ?_)))))))
       exact ⟨rfl, yP rfl (by (rw [show decide ((1100 : Int) < (ds.length : Int)) = _ from hg16, show decide (e < -100000) = _ from hg21, show decide ((100000 : Int) < e) = _ from hg26, show decide (((ds.getD 0 0).toNat : Int) = 48) = _ from hg32, show ((ds.length : Int) - 1).toNat = ds.length - 1 by omega]; rfl)) (zA rfl (zA rfl (zA rfl zK))), rfl⟩
  ·refine AWP.sub [(39, _), (1, _), (2, _), (3, _)] (zA rfl (zA rfl (zA rfl (zA rfl zK)))) ?_
   refine AWP.cond (tm rfl) (fun hc39 => ?_) (fun hc39 => ?_)
   ·try simp only [decide_eq_true_eq, decide_eq_false_iff_not, Bool.not_eq_true', Bool.not_eq_false', Int.not_lt, Int.not_le, ne_eq, Decidable.not_not] at hc39
    rw [hrn] at hc39
    have hrc : alC ds e = false := by simpa using hc39
    refine .sr (.p rfl (zB zL) (.ng (.ret ?_)))
    refine Next.rt ?_
    refine Ret.go (.cons (.tmp _ _ rfl) .nil) _ (Heap.le.refl _) ?_
    refine ⟨?_, rfl⟩
    rw [hrq, hrc]; rfl
   ·try simp only [decide_eq_true_eq, decide_eq_false_iff_not, Bool.not_eq_true', Bool.not_eq_false', Int.not_lt, Int.not_le, ne_eq, Decidable.not_not] at hc39
    rw [hrn] at hc39
    have hrc : alC ds e = true := by simpa using hc39
    refine .skip ?_
    refine Next.go ?_
    refine .seq (.sr (.p rfl (zB zD) (.ng (.block ?_))))
    refine AWP.loopW (awW neg ds e H) (ds.length) ⟨0, Nat.zero_le _, rfl, rfl, rfl, rfl⟩ (zA rfl (zA rfl (zA rfl zK))) (Heap.le.refl _) ?_
    rintro _ _ _ ⟨i, hi, hdg, rfl, rfl, hk⟩
    refine .seq (.sr (.mv rfl rfl (.mv rfl rfl (.p rfl (zZ (tm rfl) (tm rfl)) (.ng ?_)))))
    refine AWP.cond (tm rfl) (fun hc42 => ?_) (fun hc42 => ?_)
    ·try simp only [decide_eq_true_eq] at hc42
     have hdt := bfY (ds := ds) (by omega) hdg
     refine .skip ?_
     refine Next.go ?_
     refine .seq (.block (.sr (.p rfl (zG Tryz.underlying48 rfl Tryz.sizeOf9 (tm rfl)) (.p rfl (zF Tryz.isAgg9 (tm rfl)) (.mv rfl rfl (.p rfl (qL Tryz.underlying9 (tm rfl) (tm rfl) (by omega) (by omega)) (.cl rfl Tryz.call58 (evs1 rfl) (ajG _ _) (.as rfl rfl ?_))))))))
     refine .nr (.mv rfl rfl (.p rfl (qO (tm rfl)) (.ng ?_)))
     refine AWP.cond (tm rfl) (fun hc51 => ?_) (fun hc51 => ?_)
     ·try simp only [Bool.not_eq_true'] at hc51
      have hdf : digC (ds.getD i 0) = false := by simpa using hc51
      refine .sr (.p rfl (zB zL) (.ng (.ret ?_)))
      refine Block.rt ?_
      refine Next.rt ?_
      refine Next.rt ?_
      refine Block.rt ?_
      refine Next.rt ?_
      refine Ret.go (.cons (.tmp _ _ rfl) .nil) _ (Heap.le.refl _) ?_
      refine ⟨?_, rfl⟩
      have hdb : aoW ds = false := by
       cases h : aoW ds with
       | false => rfl
       | true => have := asZ (i := i + 1) h; rw [hdt, hdf] at this; cases this
      rw [hrq, hdb, Bool.and_false]; rfl
     ·try simp only [Bool.not_eq_false'] at hc51
      have hdf : digC (ds.getD i 0) = true := by simpa using hc51
      refine .skip ?_
      refine Block.go ?_
      refine Next.go ?_
      refine .region (.mv rfl rfl (.p rfl (zS (tm rfl) zD (by omega)) (.as rfl rfl (.ng ?_))))
      refine Round.mk (J := awW neg ds e H) ⟨i + 1, by omega, by rw [hdt, hdf], rfl, rfl, rfl⟩ (zA rfl (zA rfl (zA rfl zK))) (Heap.le.refl _) (by omega)
    ·try simp only [decide_eq_false_iff_not, Int.not_lt] at hc42
     refine .exit ?_
     refine Next.ex ?_
     refine Next.ex ?_
     refine Block.hit ?_
     refine Next.go ?_
     refine .sr (.p rfl (zB zL) (.ng (.ret ?_)))
     refine Ret.go (.cons (.tmp _ _ rfl) .nil) _ (Heap.le.refl _) ?_
     refine ⟨?_, rfl⟩
     rw [List.take_of_length_le (by omega)] at hdg
     rw [hrq, hrc, hdg]; rfl

set_option maxRecDepth 100000 in
theorem arX (neg : Bool) (ds : List UInt8) (e : Int) (hl : ds.length ≤ maxLen) (H : Heap) : ACall Tryz.prog 45 [dA neg ds e] H (fun y H' => y = .int .i64 (afF ds e) ∧ H' = H) := by
 refine ACall.of_body Tryz.func45 rfl Tryz.ntmps45 Tryz.results45 rfl ?_
 refine .sr (.e rfl (yU (tm rfl) (.inr ⟨_, rfl⟩)) (.p rfl (zB zD) (.nr (.p rfl (zY Tryz.isAgg48 Tryz.sizeOf48 (tm rfl) (Nat.le_of_ble_eq_true rfl)) (.cl rfl Tryz.call19 (evs1 rfl) (ajK neg ds e hl _) (.as rfl rfl (.ng (.seq ?_))))))))
 refine .sr (.mv rfl rfl (.p rfl (qO (tm rfl)) (.ng ?_)))
 refine AWP.cond (tm rfl) (fun hc7 => ?_) (fun hc7 => ?_)
 ·try simp only [Bool.not_eq_true'] at hc7
  refine .sr (.p rfl (zB zD) (.ng (.ret ?_)))
  refine Next.rt ?_
  refine Ret.go (.cons (.tmp _ _ rfl) .nil) _ (Heap.le.refl _) ?_
  refine ⟨?_, rfl⟩
  unfold afF
  rw [if_neg (by simp [hc7])]; rfl
 ·try simp only [Bool.not_eq_false'] at hc7
  have hrl := aaL (show qE ds e = true from by simpa using hc7)
  refine .skip ?_
  refine Next.go ?_
  refine .sr (.p rfl (zG Tryz.underlying48 rfl Tryz.sizeOf9 (tm rfl)) (.p rfl (zF Tryz.isAgg9 (tm rfl)) (.p rfl (yF Tryz.underlying9 (tm rfl)) (.p rfl (zG Tryz.underlying48 rfl Tryz.sizeOf3 (tm rfl)) (.p rfl (zF Tryz.isAgg3 (tm rfl)) (.p rfl (zS (tm rfl) (tm rfl) (by omega)) (.as rfl rfl (.ng ?_))))))))
  refine .ret ?_
  refine Ret.go (.cons (.tmp _ _ rfl) .nil) _ (Heap.le.refl _) ?_
  refine ⟨?_, rfl⟩
  unfold afF
  rw [if_pos (by simpa using hc7)]; rfl
theorem aoT {l : List UInt8} {c : UInt8} {i : Nat} (hi : i ≤ l.length) (h1 : ∀ q, q < i → l.getD q 0 = c) (h2 : i < l.length → l.getD i 0 ≠ c) : l.dropWhile (· == c) = l.drop i := by
 induction l generalizing i with
 | nil => simp
 | cons x l ih =>
  cases i with
  | zero =>
   have := h2 (by simp)
   have hx : x ≠ c := by simpa using this
   rw [List.dropWhile_cons, if_neg (by simpa using hx), List.drop_zero]
  | succ i =>
   have h0 : x = c := by simpa using h1 0 (by omega)
   rw [List.dropWhile_cons, if_pos (by simpa using h0), List.drop_succ_cons]
   exact ih (by simpa using hi) (fun q hq => by simpa using h1 (q + 1) (by omega)) (fun hq => by simpa using h2 (by simpa using hq))
theorem anJ {l : List UInt8} {c : UInt8} {m : Nat} (hm : m ≤ l.length) (h1 : ∀ q, m ≤ q → q < l.length → l.getD q 0 = c) (h2 : 0 < m → l.getD (m - 1) 0 ≠ c) : Lib.trimRightB l c = l.take m := by
 unfold Lib.trimRightB
 have e : l.reverse.dropWhile (· == c) = l.reverse.drop (l.length - m) := by
  have hr : ∀ q, q < l.length → l.reverse.getD q 0 = l.getD (l.length - 1 - q) 0 := fun q hq => by
   rw [List.getD_eq_getElem?_getD, List.getD_eq_getElem?_getD, List.getElem?_reverse hq]
  refine aoT (by simp) (fun q hq => ?_) (fun hq => ?_)
  ·rw [hr q (by omega)]; exact h1 _ (by omega) (by omega)
  ·rw [List.length_reverse] at hq
   rw [hr _ hq, show l.length - 1 - (l.length - m) = m - 1 by omega]; exact h2 (by omega)
 rw [e, List.drop_reverse, List.reverse_reverse, show l.length - (l.length - m) = m by omega]
theorem bbE {ds : List UInt8} {i j : Nat} (hi : i ≤ ds.length) (hij : i ≤ j) (hj : j ≤ ds.length) (h1 : ∀ q, q < i → ds.getD q 0 = 48) (h2 : i < ds.length → ds.getD i 0 ≠ 48) (h3 : ∀ q, j ≤ q → q < ds.length → ds.getD q 0 = 48) (h4 : i < j → ds.getD (j - 1) 0 ≠ 48) :
  abP ds = (ds.take j).drop i ∧ (abP ds).length = j - i ∧ agM ds = ds.length - j := by
 have e1 : anD ds = ds.drop i := aoT hi h1 h2
 have hg : ∀ q, (ds.drop i).getD q 0 = ds.getD (i + q) 0 := fun q => by
  rw [List.getD_eq_getElem?_getD, List.getD_eq_getElem?_getD, List.getElem?_drop]
 have e2 : abP ds = (ds.drop i).take (j - i) := by
  unfold abP
  rw [e1]
  refine anJ (by simp; omega) (fun q hq hl => ?_) (fun hq => ?_)
  ·rw [hg]; simp at hl; exact h3 _ (by omega) (by omega)
  ·rw [hg, show i + (j - i - 1) = j - 1 by omega]; exact h4 (by omega)
 have e3 : abP ds = (ds.take j).drop i := by rw [e2, List.drop_take]
 have e4 : (abP ds).length = j - i := by rw [e2, List.length_take, List.length_drop]; omega
 refine ⟨e3, e4, ?_⟩
 unfold agM
 rw [e4, e1, List.length_drop]; omega

set_option maxRecDepth 100000 in
theorem aiV (neg : Bool) (ds : List UInt8) (e : Int) (hd : Digs ds) (hl : ds.length ≤ 100000) (he : -1000000000000 ≤ e ∧ e ≤ 1000000000000) (H : Heap) : ACall Tryz.prog 34 [.bool neg, .str ds, .int .i64 e] H (fun y H' => y = dT (mkN neg ds e) ∧ H' = H) := by
 have hlo := amJ ds 48
 have hml := afL (ds.dropWhile (· == 48)) 48
 have hmo : e + (((ds.dropWhile (· == 48)).length : Int) - ((Lib.trimRightB (ds.dropWhile (· == 48)) 48).length : Int)) = e + (agM ds : Int) := by unfold agM abP anD; omega
 have hdc : Digs (Lib.trimRightB (ds.dropWhile (· == 48)) 48) := (hd.dropWhile _).trimR _
 refine ACall.of_body Tryz.func34 rfl Tryz.ntmps34 Tryz.results34 rfl ?_
 refine .sr (.s rfl (zR Tryz.zeroValue48 (zr48)) ?_)
 rintro _ _ ⟨b6, hb6, rfl, hH⟩
 obtain rfl := hH.symm
 refine .p rfl (zB zD) (.ng (.seq (.sr (.mv rfl rfl (.cl rfl Tryz.call67 (evs1 rfl) (alR ds hd _) (.p rfl (qO (tm rfl)) (.ng ?_)))))))
 refine AWP.cond_false (tm rfl) (by rfl) ?_
 refine .skip ?_
 refine Next.go ?_
 refine .sr (.mv rfl rfl (.cl rfl Tryz.call68 (.cons (tm rfl) (.cons (zU rfl) .nil)) (trimLeftA 48 (by decide) _ _) (.as rfl rfl (.nr (.mv rfl rfl (.mv rfl rfl (.cl rfl Tryz.call69 (.cons (tm rfl) (.cons (zU rfl) .nil)) (trimRightA 48 (by decide) _ _) (.p rfl (yH [(0, 1), (1, 1), (2, 1)] Tryz.underlying48 Tryz.zeroValue48 (zr48) rfl (pl48 _ Tryz.underlying48) (.cons (tm rfl) (.inl rfl) (.cons (tm rfl) (.inl rfl) .nil)) rfl) ?_))))))))
 refine .s rfl (zR Tryz.zeroValue48 (zr48)) ?_
 rintro _ _ ⟨b9, hb9, rfl, hH⟩
 obtain rfl := hH.symm
 have hn6_9 := Heap.ne_of (Heap.objs_set_same _ _ _) hb9
 refine .e0 (zH Tryz.sizeOf48 (tm rfl) (tm rfl) rfl rfl (.inr ⟨_, rfl⟩) (Heap.objs_set_same _ _ _) (Nat.le_of_ble_eq_true rfl)) ?_
 try first | rw [Heap.set_set] | rw [Heap.set_under (by assumption)]
 refine .ng (.seq (.sr (.p rfl (yG Tryz.underlying48 rfl Tryz.sizeOf9 (tm rfl)) (.e rfl (qH Tryz.isAgg9 (tm rfl) (Heap.objs_set_same _ _ _) rfl) (.p rfl (qN (tm rfl) (zU rfl)) (.ng ?_))))))
 refine AWP.cond (tm rfl) (fun hc22 => ?_) (fun hc22 => ?_)
 ·try simp only [decide_eq_true_eq] at hc22
  refine .sr (.e rfl (yV Tryz.isAgg48 Tryz.sizeOf48 (tm rfl) (Heap.objs_set_same _ _ _) (Nat.le_of_ble_eq_true rfl)) (.e0 (zH Tryz.sizeOf48 (tm rfl) (tm rfl) rfl rfl (.inr ⟨_, rfl⟩) ((Heap.objs_set_ne _ _ (by assumption)).trans (Heap.objs_set_same _ _ _)) (Nat.le_of_ble_eq_true rfl)) ?_))
  try first | rw [Heap.set_set] | rw [Heap.set_under (by assumption)]
  refine .p rfl (zB zD) (.ng ?_)
  refine AWP.dropb (Heap.fresh_set hb9 _) ?_
  refine AWP.frz (t := 6) rfl (hb6) ?_
  refine .ret ?_
  refine Next.rt ?_
  refine Ret.go (.cons (.cellI _ _ _ _ rfl Tryz.isAgg48 Tryz.sizeOf48 rfl) (.cons (.tmp _ _ rfl) .nil)) _ (Heap.le.refl _) ?_
  refine ⟨?_, rfl⟩
  unfold mkN
  rw [if_pos (show abP ds = [] from hc22)]
  rw [show ds.dropWhile (· == 48) = anD ds from rfl, show Lib.trimRightB (anD ds) 48 = abP ds from rfl, show abP ds = [] from hc22]; rfl
 ·try simp only [decide_eq_false_iff_not] at hc22
  refine .skip ?_
  refine Next.go ?_
  refine .seq (.sr (.mv rfl rfl (.p rfl (yG Tryz.underlying48 rfl Tryz.sizeOf3 (tm rfl)) (.e0 (zH Tryz.sizeOf3 (tm rfl) (tm rfl) rfl rfl (.inl rfl) (Heap.objs_set_same _ _ _) (Nat.le_of_ble_eq_true rfl)) ?_))))
  try first | rw [Heap.set_set] | rw [Heap.set_under (by assumption)]
  refine .nr (.mv rfl rfl (.mv rfl rfl (.p rfl (zS (tm rfl) zD (by omega)) (.p rfl (aaU (tm rfl) (by omega)) (.p rfl (acA (tm rfl) (tm rfl)) (.p rfl (zZ (tm rfl) zD) (.ng ?_)))))))
  refine AWP.cond_true (tm rfl) (by exact decide_eq_true (by simp only [avK]; split <;> omega)) ?_
  refine .region (.p rfl (yG Tryz.underlying48 rfl Tryz.sizeOf3 (tm rfl)) (.e rfl (qH Tryz.isAgg3 (tm rfl) (Heap.objs_set_same _ _ _) rfl) (.mv rfl rfl (.p rfl (yF Tryz.underlying9 (tm rfl)) (.p rfl (yG Tryz.underlying48 rfl Tryz.sizeOf9 (tm rfl)) (.e rfl (qH Tryz.isAgg9 (tm rfl) (Heap.objs_set_same _ _ _) rfl) (.p rfl (yF Tryz.underlying9 (tm rfl)) (.p rfl (zW (tm rfl) (tm rfl) (by omega)) ?_))))))))
  refine .p rfl (zS (tm rfl) (tm rfl) (by omega)) (.p rfl (yG Tryz.underlying48 rfl Tryz.sizeOf3 (tm rfl)) (.e0 (zH Tryz.sizeOf3 (tm rfl) (tm rfl) rfl rfl (.inl rfl) (Heap.objs_set_same _ _ _) (Nat.le_of_ble_eq_true rfl)) ?_))
  try first | rw [Heap.set_set] | rw [Heap.set_under (by assumption)]
  refine .ng (.seq (.seq ?_))
  rw [hmo]
  refine .region (.e rfl (yV Tryz.isAgg48 Tryz.sizeOf48 (tm rfl) (Heap.objs_set_same _ _ _) (Nat.le_of_ble_eq_true rfl)) (.cl rfl Tryz.call60 (evs1 rfl) (adR neg _ _ hdc _) (.p rfl (qO (tm rfl)) (.ng ?_))))
  refine AWP.cond (tm rfl) (fun hc44 => ?_) (fun hc44 => ?_)
  ·try simp only [Bool.not_eq_true'] at hc44
   refine .sr (.p rfl (yH [(0, 1), (1, 1), (2, 1)] Tryz.underlying48 Tryz.zeroValue48 (zr48) rfl (pl48 _ Tryz.underlying48) .nil rfl) (.e0 (zH Tryz.sizeOf48 (tm rfl) (tm rfl) rfl rfl (.inr ⟨_, rfl⟩) ((Heap.objs_set_ne _ _ (by assumption)).trans (Heap.objs_set_same _ _ _)) (Nat.le_of_ble_eq_true rfl)) ?_))
   try first | rw [Heap.set_set] | rw [Heap.set_under (by assumption)]
   refine .p rfl (zB zD) (.ng ?_)
   refine AWP.dropb (hb9) ?_
   refine AWP.frz (t := 6) rfl (hb6) ?_
   refine .ret ?_
   refine Next.rt ?_
   refine Ret.go (.cons (.cellI _ _ _ _ rfl Tryz.isAgg48 Tryz.sizeOf48 rfl) (.cons (.tmp _ _ rfl) .nil)) _ (Heap.le.refl _) ?_
   refine ⟨?_, rfl⟩
   have hr : qE (abP ds) (e + agM ds) = false := by first | exact hc44 | exact (Bool.not_eq_false _).mp hc44 | (simp only [Bool.not_eq_true, Bool.not_eq_false] at hc44; exact hc44)
   rw [aiR hd hc22] at hr
   unfold mkN
   rw [if_neg (show ¬ abP ds = [] from hc22), if_neg (by rintro ⟨q1, q2, q3⟩; simp [q1, q2, q3] at hr)]; rfl
  ·try simp only [Bool.not_eq_false'] at hc44
   refine .skip ?_
   refine Next.go ?_
   refine .sr (.e rfl (yV Tryz.isAgg48 Tryz.sizeOf48 (tm rfl) (Heap.objs_set_same _ _ _) (Nat.le_of_ble_eq_true rfl)) (.e0 (zH Tryz.sizeOf48 (tm rfl) (tm rfl) rfl rfl (.inr ⟨_, rfl⟩) ((Heap.objs_set_ne _ _ (by assumption)).trans (Heap.objs_set_same _ _ _)) (Nat.le_of_ble_eq_true rfl)) ?_))
   try first | rw [Heap.set_set] | rw [Heap.set_under (by assumption)]
   refine .p rfl (zB zD) (.ng ?_)
   refine AWP.dropb (Heap.fresh_set hb9 _) ?_
   refine AWP.frz (t := 6) rfl (hb6) ?_
   refine .ret ?_
   refine Ret.go (.cons (.cellI _ _ _ _ rfl Tryz.isAgg48 Tryz.sizeOf48 rfl) (.cons (.tmp _ _ rfl) .nil)) _ (Heap.le.refl _) ?_
   refine ⟨?_, rfl⟩
   have hr : qE (abP ds) (e + agM ds) = true := by first | exact hc44 | exact (Bool.not_eq_false _).mp hc44 | (simp only [Bool.not_eq_true, Bool.not_eq_false] at hc44; exact hc44)
   rw [aiR hd hc22] at hr
   simp only [Bool.and_eq_true, decide_eq_true_eq] at hr
   unfold mkN
   rw [if_neg (show ¬ abP ds = [] from hc22), if_pos ⟨hr.1.1, hr.1.2, hr.2⟩]; rfl

def rmk_J (neg : Bool) (ds : List UInt8) (e : Int) (b : Nat) (H : Heap) : Nat → Env → Heap → Prop := fun k env H1 => ∃ i : Nat, i ≤ ds.length ∧ env = [(0, .bool neg), (1, .str ds), (2, .int .i64 e), (6, .ptr (some ⟨b, 0, none⟩)), (8, .int .i64 (i : Int))] ∧ H1 = H.set b (.box 48 [.bool false, .str [], .int .i64 0]) ∧ k = ds.length - i

def rmkF_J (neg : Bool) (ds : List UInt8) (e : Int) (b : Nat) (H : Heap) : Nat → Env → Heap → Prop := fun k env H1 => ∃ i : Nat, i ≤ ds.length ∧ (∀ q, q < i → ds.getD q 0 = 48) ∧ env = [(0, .bool neg), (1, .str ds), (2, .int .i64 e), (6, .ptr (some ⟨b, 0, none⟩)), (10, .int .i64 (i : Int))] ∧ H1 = H.set b (.box 48 [.bool false, .str [], .int .i64 0]) ∧ k = ds.length - i

def rmkT_J (neg : Bool) (ds : List UInt8) (e : Int) (b i : Nat) (H : Heap) : Nat → Env → Heap → Prop := fun k env H1 => ∃ j : Nat, i ≤ j ∧ j ≤ ds.length ∧ (∀ q, j ≤ q → q < ds.length → ds.getD q 0 = 48) ∧ env = [(0, .bool neg), (1, .str ds), (2, .int .i64 e), (6, .ptr (some ⟨b, 0, none⟩)), (10, .int .i64 (i : Int)), (11, .int .i64 (j : Int)), (12, .int .i64 ((ds.length - j : Nat) : Int))] ∧ H1 = H.set b (.box 48 [.bool false, .str [], .int .i64 0]) ∧ k = j

theorem aqQ {b : UInt8} : ((b.toNat : Nat) : Int) = 48 ↔ b = 48 := by
 have := aqP (b := b) 48 (by decide)
 exact decide_eq_decide.1 this

set_option maxRecDepth 100000 in
theorem agY (neg : Bool) (ds : List UInt8) (e : Int) (hd : Digs ds) (hl : ds.length ≤ 100000) (he : -1000000000000 ≤ e ∧ e ≤ 1000000000000) (H : Heap) : ACall Tryz.prog 41 [.bool neg, .str ds, .int .i64 e] H (fun y H' => y = dT (mkN neg ds e) ∧ H' = H) := by
 refine ACall.of_body Tryz.func41 rfl Tryz.ntmps41 Tryz.results41 rfl ?_
 refine .sr (.s rfl (zR Tryz.zeroValue48 (zr48)) ?_)
 rintro _ _ ⟨b6, hb6, rfl, hH⟩
 obtain rfl := hH.symm
 refine .p rfl (zB zD) (.ng (.seq (.sr (.p rfl (zB zD) (.ng (.block ?_))))))
 refine AWP.loopW (rmk_J neg ds e b6 H) (ds.length) ⟨0, Nat.zero_le _, rfl, rfl, rfl⟩ (zA rfl (zA rfl (zA rfl (zA rfl (zA rfl zK))))) (Heap.le.refl _) ?_
 rintro _ _ _ ⟨i, hi, rfl, rfl, hk⟩
 refine .seq (.sr (.mv rfl rfl (.mv rfl rfl (.p rfl (yF Tryz.underlying9 (tm rfl)) (.p rfl (zZ (tm rfl) (tm rfl)) (.ng ?_))))))
 refine AWP.cond (tm rfl) (fun hc16 => ?_) (fun hc16 => ?_)
 ·try simp only [decide_eq_true_eq] at hc16
  have hda := hd.at (show i < ds.length by omega)
  have hdc : digC (ds.getD i 0) = true := by unfold digC; rw [decide_eq_true (by omega), decide_eq_true (by omega)]; rfl
  refine .skip ?_
  refine Next.go ?_
  refine .seq (.block (.sr (.mv rfl rfl (.mv rfl rfl (.p rfl (qL Tryz.underlying9 (tm rfl) (tm rfl) (by omega) (by omega)) (.cl rfl Tryz.call58 (evs1 rfl) (ajG (ds.getD i 0) _) (.as rfl rfl (.nr ?_))))))))
  refine .mv rfl rfl (.p rfl (qO (tm rfl)) (.ng ?_))
  refine AWP.cond_false (tm rfl) (by rw [hdc]; rfl) ?_
  refine .skip ?_
  refine Block.go ?_
  refine Next.go ?_
  refine .region (.mv rfl rfl (.p rfl (zS (tm rfl) zD (by omega)) (.as rfl rfl (.ng ?_))))
  refine Round.mk (J := rmk_J neg ds e b6 H) ⟨i + 1, by omega, rfl, rfl, rfl⟩ (zA rfl (zA rfl (zA rfl (zA rfl (zA rfl zK))))) (Heap.le.refl _) (by omega)
 ·try simp only [decide_eq_false_iff_not, Int.not_lt] at hc16
  refine .exit ?_
  refine Next.ex ?_
  refine Next.ex ?_
  refine Block.hit ?_
  refine Next.go ?_
  refine .sr (.p rfl (zB zD) (.ng (.seq (.block ?_))))
  refine AWP.loopW (rmkF_J neg ds e b6 H) (ds.length) ⟨0, Nat.zero_le _, fun q hq => by omega, rfl, rfl, rfl⟩ (zA rfl (zA rfl (zA rfl (zA rfl (zA rfl zK))))) (Heap.le.refl _) ?_
  rintro _ _ _ ⟨i, hi, hz, rfl, rfl, hk⟩
  refine .seq ?_
  refine AWP.seqTo 35 (.bool (decide ((i : Int) < (ds.length : Int)) && decide (((ds.getD i 0).toNat : Int) = 48))) [0, 1, 2, 6, 10] ?_ ?_
  ·-- region 8
   refine .region (.mv rfl rfl (.mv rfl rfl (.p rfl (yF Tryz.underlying9 (tm rfl)) (.p rfl (zZ (tm rfl) (tm rfl)) (.mv rfl rfl ?_)))))
   refine zP (t := 30) rfl (fun hg30 => ?_) (fun hg30 => ?_)
   ·have hh30 := hg30; try simp only [decide_eq_true_eq] at hh30
    refine .gp rfl rfl rfl (by assumption) (zE (tm rfl)) (.gp rfl rfl rfl (by assumption) (zE (tm rfl)) (.gp rfl rfl rfl (by assumption) (qL Tryz.underlying9 (tm rfl) (tm rfl) (by omega) (by omega)) (.gp rfl rfl rfl (by assumption) (zX (tm rfl) zD) (.p rfl (zO (tm rfl) (by assumption) (tm rfl)) (.nil ?_)))))
    exact ⟨rfl, yP rfl (by (rw [show decide ((i : Int) < (ds.length : Int)) = _ from hg30]; rfl)) (zA rfl (zA rfl (zA rfl (zA rfl (zA rfl zK))))), rfl⟩
   ·have hh30 := hg30; try simp only [decide_eq_false_iff_not, Int.not_lt] at hh30
    refine .gn rfl rfl rfl (by assumption) (.gn rfl rfl rfl (by assumption) (.gn rfl rfl rfl (by assumption) (.gn rfl rfl rfl (by assumption) (.p rfl (zM (tm rfl) (by assumption) zL) (.nil ?_)))))
    exact ⟨rfl, yP rfl (by (rw [show decide ((i : Int) < (ds.length : Int)) = _ from hg30]; rfl)) (zA rfl (zA rfl (zA rfl (zA rfl (zA rfl zK))))), rfl⟩
  ·refine AWP.sub [(35, _), (0, _), (1, _), (2, _), (6, _), (10, _)] (zA rfl (zA rfl (zA rfl (zA rfl (zA rfl (zA rfl zK)))))) ?_
   refine AWP.cond (tm rfl) (fun hc35 => ?_) (fun hc35 => ?_)
   ·try simp only [decide_eq_true_eq, decide_eq_false_iff_not, Bool.not_eq_true', Bool.not_eq_false', Int.not_lt, Int.not_le, ne_eq, Decidable.not_not] at hc35
    simp only [Bool.and_eq_true, decide_eq_true_eq] at hc35
    have h48 := aqQ.1 hc35.2
    refine .skip ?_
    refine Next.go ?_
    refine .block (.region (.mv rfl rfl (.p rfl (zS (tm rfl) zD (by omega)) (.as rfl rfl (.nil ?_)))))
    refine Block.go ?_
    refine Next.go ?_
    refine Round.mk (J := rmkF_J neg ds e b6 H) ⟨i + 1, by omega, fun q hq => by rcases Nat.lt_or_ge q i with h | h; exact hz q h; rw [show q = i by omega]; exact h48, rfl, rfl, rfl⟩ (zA rfl (zA rfl (zA rfl (zA rfl (zA rfl zK))))) (Heap.le.refl _) (by omega)
   ·try simp only [decide_eq_true_eq, decide_eq_false_iff_not, Bool.not_eq_true', Bool.not_eq_false', Int.not_lt, Int.not_le, ne_eq, Decidable.not_not] at hc35
    simp only [Bool.and_eq_false_iff, decide_eq_false_iff_not] at hc35
    have hne : i < ds.length → ds.getD i 0 ≠ 48 := fun h h2 => hc35.elim (fun q => q (by omega)) (fun q => q (aqQ.2 h2))
    refine .exit ?_
    refine Next.ex ?_
    refine Next.ex ?_
    refine Block.hit ?_
    refine Next.go ?_
    refine .sr (.mv rfl rfl (.p rfl (yF Tryz.underlying9 (tm rfl)) (.as rfl rfl (.nr (.p rfl (zB zD) (.ng (.seq (.block ?_))))))))
    refine AWP.loopW (rmkT_J neg ds e b6 i H) (ds.length) ⟨ds.length, hi, Nat.le_refl _, fun q hq h => by omega, rfl, rfl, rfl⟩ (zA rfl (zA rfl (zA rfl (zA rfl (zA rfl (zA rfl (yE rfl (by rw [Nat.sub_self]; rfl) zK))))))) (Heap.le.refl _) ?_
    rintro _ _ _ ⟨j, hij, hj, hz2, rfl, rfl, hk⟩
    refine .seq ?_
    refine AWP.seqTo 49 (.bool (decide ((i : Int) < (j : Int)) && decide (((ds.getD (j - 1) 0).toNat : Int) = 48))) [0, 1, 2, 6, 10, 11, 12] ?_ ?_
    ·-- region 12
     refine .region (.mv rfl rfl (.mv rfl rfl (.p rfl (yC (tm rfl) (tm rfl)) (.mv rfl rfl ?_))))
     refine zP (t := 43) rfl (fun hg43 => ?_) (fun hg43 => ?_)
     ·have hh43 := hg43; try simp only [decide_eq_true_eq] at hh43
      refine .gp rfl rfl rfl (by assumption) (zE (tm rfl)) (.gp rfl rfl rfl (by assumption) (zE (tm rfl)) (.gp rfl rfl rfl (by assumption) (zW (tm rfl) zD (by omega)) (.gp rfl rfl rfl (by assumption) (qL Tryz.underlying9 (tm rfl) (tm rfl) (by omega) (by omega)) (.gp rfl rfl rfl (by assumption) (zX (tm rfl) zD) (.p rfl (zO (tm rfl) (by assumption) (tm rfl)) (.nil ?_))))))
      exact ⟨rfl, yP rfl (by (rw [show decide ((i : Int) < (j : Int)) = _ from hg43, show ((j : Int) - 1).toNat = j - 1 by omega]; rfl)) (zA rfl (zA rfl (zA rfl (zA rfl (zA rfl (zA rfl (zA rfl zK))))))), rfl⟩
     ·have hh43 := hg43; try simp only [decide_eq_false_iff_not, Int.not_lt] at hh43
      refine .gn rfl rfl rfl (by assumption) (.gn rfl rfl rfl (by assumption) (.gn rfl rfl rfl (by assumption) (.gn rfl rfl rfl (by assumption) (.gn rfl rfl rfl (by assumption) (.p rfl (zM (tm rfl) (by assumption) zL) (.nil ?_))))))
      exact ⟨rfl, yP rfl (by (rw [show decide ((i : Int) < (j : Int)) = _ from hg43]; rfl)) (zA rfl (zA rfl (zA rfl (zA rfl (zA rfl (zA rfl (zA rfl zK))))))), rfl⟩
    ·refine AWP.sub [(49, _), (0, _), (1, _), (2, _), (6, _), (10, _), (11, _), (12, _)] (zA rfl (zA rfl (zA rfl (zA rfl (zA rfl (zA rfl (zA rfl (zA rfl zK)))))))) ?_
     refine AWP.cond (tm rfl) (fun hc49 => ?_) (fun hc49 => ?_)
     ·try simp only [decide_eq_true_eq, decide_eq_false_iff_not, Bool.not_eq_true', Bool.not_eq_false', Int.not_lt, Int.not_le, ne_eq, Decidable.not_not] at hc49
      simp only [Bool.and_eq_true, decide_eq_true_eq] at hc49
      have h48 := aqQ.1 hc49.2
      refine .skip ?_
      refine Next.go ?_
      refine .block (.sr (.mv rfl rfl (.p rfl (zW (tm rfl) zD (by omega)) (.as rfl rfl (.ng (.region (.mv rfl rfl (.p rfl (zS (tm rfl) zD (by omega)) ?_))))))))
      refine .as rfl rfl (.nil ?_)
      refine Block.go ?_
      refine Next.go ?_
      refine Round.mk (J := rmkT_J neg ds e b6 i H) ⟨j - 1, by omega, by omega, fun q hq h => by rcases Nat.lt_or_ge q j with h2 | h2; rw [show q = j - 1 by omega]; exact h48; exact hz2 q h2 h, rfl, rfl, rfl⟩ (zA rfl (zA rfl (zA rfl (zA rfl (zA rfl (yE rfl (by congr 1; omega) (yE rfl (by congr 1; omega) zK))))))) (Heap.le.refl _) (by omega)
     ·try simp only [decide_eq_true_eq, decide_eq_false_iff_not, Bool.not_eq_true', Bool.not_eq_false', Int.not_lt, Int.not_le, ne_eq, Decidable.not_not] at hc49
      simp only [Bool.and_eq_false_iff, decide_eq_false_iff_not] at hc49
      have hne2 : i < j → ds.getD (j - 1) 0 ≠ 48 := fun h h2 => hc49.elim (fun q => q (by omega)) (fun q => q (aqQ.2 h2))
      obtain ⟨hco, hcl, hmr⟩ := bbE hi hij hj hz hne hz2 hne2
      refine .exit ?_
      refine Next.ex ?_
      refine Next.ex ?_
      refine Block.hit ?_
      refine Next.go ?_
      refine .seq (.sr (.mv rfl rfl (.mv rfl rfl (.p rfl (zX (tm rfl) (tm rfl)) (.ng ?_)))))
      refine AWP.cond (tm rfl) (fun hc56 => ?_) (fun hc56 => ?_)
      ·try simp only [decide_eq_true_eq] at hc56
       refine .sr (.mv rfl rfl (.p rfl (yH [(0, 1), (1, 1), (2, 1)] Tryz.underlying48 Tryz.zeroValue48 (zr48) rfl (pl48 _ Tryz.underlying48) (.cons (tm rfl) (.inl rfl) .nil) rfl) (.e0 (zH Tryz.sizeOf48 (tm rfl) (tm rfl) rfl rfl (.inr ⟨_, rfl⟩) (Heap.objs_set_same _ _ _) (Nat.le_of_ble_eq_true rfl)) ?_)))
       try first | rw [Heap.set_set] | rw [Heap.set_under (by assumption)]
       refine .p rfl (zB zD) (.ng ?_)
       refine AWP.frz (t := 6) rfl (hb6) ?_
       refine .ret ?_
       refine Next.rt ?_
       refine Ret.go (.cons (.cellI _ _ _ _ rfl Tryz.isAgg48 Tryz.sizeOf48 rfl) (.cons (.tmp _ _ rfl) .nil)) _ (Heap.le.refl _) ?_
       refine ⟨?_, rfl⟩
       unfold mkN
       rw [if_pos (List.length_eq_zero_iff.1 (by omega))]; rfl
      ·try simp only [decide_eq_false_iff_not] at hc56
       refine .skip ?_
       refine Next.go ?_
       refine .seq ?_
       refine AWP.seqTo 78 (.bool (decide ((1100 : Int) < (j : Int) - (i : Int)) || decide ((100000 : Int) < e) || decide (e < -100000 - ((ds.length - j : Nat) : Int)) || decide ((100000 : Int) < e + ((ds.length - j : Nat) : Int)))) [0, 1, 2, 6, 10, 11, 12] ?_ ?_
       ·-- region 17
        refine .region (.mv rfl rfl (.mv rfl rfl (.p rfl (zW (tm rfl) (tm rfl) (by omega)) (.p rfl (yC (tm rfl) zD) (.mv rfl rfl ?_)))))
        refine zP (t := 63) rfl (fun hg63 => ?_) (fun hg63 => ?_)
        ·have hh63 := hg63; try simp only [decide_eq_true_eq] at hh63
         refine .gn rfl rfl rfl (by assumption) (.gn rfl rfl rfl (by assumption) (.p rfl (zO (tm rfl) (by assumption) zL) (.mv rfl rfl (.gn rfl rfl rfl (by rfl) (.gn rfl rfl rfl (by rfl) (.gn rfl rfl rfl (by rfl) (.gn rfl rfl rfl (by rfl) (.p rfl (zO (tm rfl) (by rfl) zL) ?_))))))))
         refine .mv rfl rfl (.gn rfl rfl rfl (by rfl) (.gn rfl rfl rfl (by rfl) (.gn rfl rfl rfl (by rfl) (.gn rfl rfl rfl (by rfl) (.p rfl (zO (tm rfl) (by rfl) zL) (.nil ?_))))))
         exact ⟨rfl, yP rfl (by (rw [show decide ((1100 : Int) < (j : Int) - (i : Int)) = _ from hg63]; rfl)) (zA rfl (zA rfl (zA rfl (zA rfl (zA rfl (zA rfl (zA rfl zK))))))), rfl⟩
        ·have hh63 := hg63; try simp only [decide_eq_false_iff_not, Int.not_lt] at hh63
         refine .gp rfl rfl rfl (by assumption) (zE (tm rfl)) (.gp rfl rfl rfl (by assumption) (yC (tm rfl) zD) (.p rfl (zM (tm rfl) (by assumption) (tm rfl)) (.mv rfl rfl ?_)))
         refine zP (t := 67) rfl (fun hg67 => ?_) (fun hg67 => ?_)
         ·have hh67 := hg67; try simp only [decide_eq_true_eq] at hh67
          refine .gn rfl rfl rfl (by assumption) (.gn rfl rfl rfl (by assumption) (.gn rfl rfl rfl (by assumption) (.gn rfl rfl rfl (by assumption) (.p rfl (zO (tm rfl) (by assumption) zL) (.mv rfl rfl (.gn rfl rfl rfl (by rfl) (.gn rfl rfl rfl (by rfl) (.gn rfl rfl rfl (by rfl) ?_))))))))
          refine .gn rfl rfl rfl (by rfl) (.p rfl (zO (tm rfl) (by rfl) zL) (.nil ?_))
          exact ⟨rfl, yP rfl (by (rw [show decide ((1100 : Int) < (j : Int) - (i : Int)) = _ from hg63, show decide ((100000 : Int) < e) = _ from hg67]; rfl)) (zA rfl (zA rfl (zA rfl (zA rfl (zA rfl (zA rfl (zA rfl zK))))))), rfl⟩
         ·have hh67 := hg67; try simp only [decide_eq_false_iff_not, Int.not_lt] at hh67
          refine .gp rfl rfl rfl (by assumption) (zE (tm rfl)) (.gp rfl rfl rfl (by assumption) (zE (tm rfl)) (.gp rfl rfl rfl (by assumption) (zW zD (tm rfl) (by omega)) (.gp rfl rfl rfl (by assumption) (zZ (tm rfl) (tm rfl)) (.p rfl (zM (tm rfl) (by assumption) (tm rfl)) (.mv rfl rfl ?_)))))
          refine zP (t := 73) rfl (fun hg73 => ?_) (fun hg73 => ?_)
          ·have hh73 := hg73; try simp only [decide_eq_true_eq] at hh73
           refine .gn rfl rfl rfl (by assumption) (.gn rfl rfl rfl (by assumption) (.gn rfl rfl rfl (by assumption) (.gn rfl rfl rfl (by assumption) (.p rfl (zO (tm rfl) (by assumption) zL) (.nil ?_)))))
           exact ⟨rfl, yP rfl (by (rw [show decide ((1100 : Int) < (j : Int) - (i : Int)) = _ from hg63, show decide ((100000 : Int) < e) = _ from hg67, show decide (e < -100000 - ((ds.length - j : Nat) : Int)) = _ from hg73]; rfl)) (zA rfl (zA rfl (zA rfl (zA rfl (zA rfl (zA rfl (zA rfl zK))))))), rfl⟩
          ·have hh73 := hg73; try simp only [decide_eq_false_iff_not, Int.not_lt] at hh73
           refine .gp rfl rfl rfl (by assumption) (zE (tm rfl)) (.gp rfl rfl rfl (by assumption) (zE (tm rfl)) (.gp rfl rfl rfl (by assumption) (zS (tm rfl) (tm rfl) (by omega)) (.gp rfl rfl rfl (by assumption) (yC (tm rfl) zD) (.p rfl (zM (tm rfl) (by assumption) (tm rfl)) (.nil ?_)))))
           exact ⟨rfl, yP rfl (by (rw [show decide ((1100 : Int) < (j : Int) - (i : Int)) = _ from hg63, show decide ((100000 : Int) < e) = _ from hg67, show decide (e < -100000 - ((ds.length - j : Nat) : Int)) = _ from hg73]; rfl)) (zA rfl (zA rfl (zA rfl (zA rfl (zA rfl (zA rfl (zA rfl zK))))))), rfl⟩
       ·refine AWP.sub [(78, _), (0, _), (1, _), (2, _), (6, _), (10, _), (11, _), (12, _)] (zA rfl (zA rfl (zA rfl (zA rfl (zA rfl (zA rfl (zA rfl (zA rfl zK)))))))) ?_
        refine AWP.cond (tm rfl) (fun hc78 => ?_) (fun hc78 => ?_)
        ·try simp only [decide_eq_true_eq, decide_eq_false_iff_not, Bool.not_eq_true', Bool.not_eq_false', Int.not_lt, Int.not_le, ne_eq, Decidable.not_not] at hc78
         simp only [Bool.or_eq_true, decide_eq_true_eq] at hc78
         refine .sr (.p rfl (yH [(0, 1), (1, 1), (2, 1)] Tryz.underlying48 Tryz.zeroValue48 (zr48) rfl (pl48 _ Tryz.underlying48) .nil rfl) (.e0 (zH Tryz.sizeOf48 (tm rfl) (tm rfl) rfl rfl (.inr ⟨_, rfl⟩) (Heap.objs_set_same _ _ _) (Nat.le_of_ble_eq_true rfl)) ?_))
         try first | rw [Heap.set_set] | rw [Heap.set_under (by assumption)]
         refine .p rfl (zB zD) (.ng ?_)
         refine AWP.frz (t := 6) rfl (hb6) ?_
         refine .ret ?_
         refine Next.rt ?_
         refine Ret.go (.cons (.cellI _ _ _ _ rfl Tryz.isAgg48 Tryz.sizeOf48 rfl) (.cons (.tmp _ _ rfl) .nil)) _ (Heap.le.refl _) ?_
         refine ⟨?_, rfl⟩
         unfold mkN
         rw [if_neg (fun h => by rw [h] at hcl; simp at hcl; omega), if_neg (show ¬ okD ds e by unfold okD; rw [hcl, hmr]; omega)]; rfl
        ·try simp only [decide_eq_true_eq, decide_eq_false_iff_not, Bool.not_eq_true', Bool.not_eq_false', Int.not_lt, Int.not_le, ne_eq, Decidable.not_not] at hc78
         simp only [Bool.or_eq_false_iff, decide_eq_false_iff_not] at hc78
         refine .skip ?_
         refine Next.go ?_
         refine .sr (.mv rfl rfl (.mv rfl rfl (.mv rfl rfl (.mv rfl rfl (.p rfl (apN Tryz.underlying9 (tm rfl) (tm rfl) (tm rfl) (by omega) (by omega) (by omega)) (.mv rfl rfl (.mv rfl rfl (.p rfl (zS (tm rfl) (tm rfl) (by omega)) ?_))))))))
         refine .p rfl (yH [(0, 1), (1, 1), (2, 1)] Tryz.underlying48 Tryz.zeroValue48 (zr48) rfl (pl48 _ Tryz.underlying48) (.cons (tm rfl) (.inl rfl) (.cons (tm rfl) (.inl rfl) (.cons (tm rfl) (.inl rfl) .nil))) rfl) ?_
         refine .e0 (zH Tryz.sizeOf48 (tm rfl) (tm rfl) rfl rfl (.inr ⟨_, rfl⟩) (Heap.objs_set_same _ _ _) (Nat.le_of_ble_eq_true rfl)) ?_
         try first | rw [Heap.set_set] | rw [Heap.set_under (by assumption)]
         refine .p rfl (zB zD) (.ng ?_)
         refine AWP.frz (t := 6) rfl (hb6) ?_
         refine .ret ?_
         refine Ret.go (.cons (.cellI _ _ _ _ rfl Tryz.isAgg48 Tryz.sizeOf48 rfl) (.cons (.tmp _ _ rfl) .nil)) _ (Heap.le.refl _) ?_
         refine ⟨?_, rfl⟩
         unfold mkN
         rw [if_neg (fun h => by rw [h] at hcl; simp at hcl; omega), if_pos (show okD ds e by unfold okD; rw [hcl, hmr]; omega), hco, hmr]; rfl
def upB (rest : List UInt8) : Bool := decide (53 ≤ (rest.getD 0 0).toNat)
theorem cmp5 {rest : List UInt8} (h : rest ≠ []) : (0 : Int) ≤ Lib.compareBytes rest [53] ↔ 53 ≤ (rest.getD 0 0).toNat := by
 cases rest with
 | nil => exact absurd rfl h
 | cons x r =>
  unfold Lib.compareBytes
  simp only [List.getD_cons_zero]
  have hx : x < 53 ↔ x.toNat < 53 := UInt8.lt_iff_toNat_lt
  have hy : 53 < x ↔ 53 < x.toNat := UInt8.lt_iff_toNat_lt
  split
  ·rename_i h1; have := hx.1 h1; omega
  ·rename_i h1
   have h1' : ¬ x.toNat < 53 := fun q => h1 (hx.2 q)
   split
   ·omega
   ·cases r with
    | nil => unfold Lib.compareBytes; omega
    | cons y r => unfold Lib.compareBytes; omega
def aoL (s : List UInt8) : List UInt8 :=
 if Lib.trimRightB s 57 = [] then 49 :: List.replicate s.length 48
 else (Lib.trimRightB s 57).take ((Lib.trimRightB s 57).length - 1) ++ [UInt8.ofNat (((Lib.trimRightB s 57).getD ((Lib.trimRightB s 57).length - 1) 0).toNat + 1)] ++ List.replicate (s.length - (Lib.trimRightB s 57).length) 48
def cutD (neg : Bool) (ds : List UInt8) (e : Int) (n : Nat) : (Bool × List UInt8 × Int) × Int := mkN neg (if upB (ds.drop n) = true then aoL (ds.take n) else ds.take n) (e + ds.length - n)
def sigD (neg : Bool) (ds : List UInt8) (e : Int) (n : Nat) : (Bool × List UInt8 × Int) × Int := if ds.length ≤ n then ((neg, ds, e), 0) else cutD neg ds e n
theorem Digs.app {a b : List UInt8} (h : Digs a) (k : Digs b) : Digs (a ++ b) := fun x hx => by
 rcases List.mem_append.1 hx with h1 | h1
 ·exact h x h1
 ·exact k x h1
theorem Digs.rep {n : Nat} {x : UInt8} (h : isD x) : Digs (List.replicate n x) := fun y hy => by rw [List.eq_of_mem_replicate hy]; exact h
theorem Digs.one {x : UInt8} (h : isD x) : Digs [x] := fun y hy => by rw [List.mem_singleton.1 hy]; exact h
theorem last_9 {s : List UInt8} (hd : Digs s) (h : Lib.trimRightB s 57 ≠ []) : 48 ≤ ((Lib.trimRightB s 57).getD ((Lib.trimRightB s 57).length - 1) 0).toNat ∧ ((Lib.trimRightB s 57).getD ((Lib.trimRightB s 57).length - 1) 0).toNat < 57 := by
 have hp := List.length_pos_iff.2 h
 have h1 := (hd.trimR 57).at (p := (Lib.trimRightB s 57).length - 1) (by omega)
 have h2 := anK h
 refine ⟨h1.1, ?_⟩
 rcases Nat.lt_or_ge ((Lib.trimRightB s 57).getD ((Lib.trimRightB s 57).length - 1) 0).toNat 57 with q | q
 ·exact q
 ·exact absurd (UInt8.toNat_inj.1 (show _ = (57 : UInt8).toNat by simp only [UInt8.reduceToNat]; omega)) h2
theorem amD {s : List UInt8} (hd : Digs s) : Digs (aoL s) := by
 unfold aoL
 split
 ·exact Digs.app (a := [49]) (Digs.one (by unfold isD; decide)) (Digs.rep (by unfold isD; decide))
 ·rename_i h
  obtain ⟨h1, h2⟩ := last_9 hd h
  refine Digs.app (Digs.app ((hd.trimR 57).take _) (Digs.one ?_)) (Digs.rep (by unfold isD; decide))
  unfold isD
  rw [UInt8.toNat_ofNat']
  omega
theorem akB (s : List UInt8) : (aoL s).length ≤ s.length + 1 := by
 unfold aoL
 have := afL s 57
 split
 ·simp
 ·rename_i h
  have hp := List.length_pos_iff.2 h
  simp only [List.length_append, List.length_take, List.length_replicate, List.length_cons, List.length_nil]; omega

set_option maxRecDepth 100000 in
theorem bbY (neg : Bool) (kept rest : List UInt8) (hr : rest ≠ []) (H : Heap) : ACall Tryz.prog 168 [.bool neg, .str kept, .str rest, .int .i64 1] H (fun y H' => y = .bool (upB rest) ∧ H' = H) := by
 refine ACall.of_body Tryz.func168 rfl Tryz.ntmps168 Tryz.results168 rfl ?_
 refine .sr (.p rfl (zB zL) (.ng (.seq (.sr (.mv rfl rfl (.p rfl (qN (tm rfl) (zU rfl)) (.ng ?_)))))))
 refine AWP.cond_false (tm rfl) (by exact decide_eq_false hr) ?_
 refine .skip ?_
 refine Next.go ?_
 refine .sr (.mv rfl rfl (.cl rfl Tryz.call212 (.cons (tm rfl) (.cons (zU rfl) .nil)) (compareA rest [53] _) (.as rfl rfl (.ng (.seq (.sr (.mv rfl rfl (.ng ?_))))))))
 refine .block (.sr (.p rfl (zX (tm rfl) zD) (.as rfl rfl (.ng ?_))))
 refine AWP.cond_false (tm rfl) (by rfl) ?_
 refine .sr (.p rfl (zX (tm rfl) zD) (.as rfl rfl (.ng ?_)))
 refine AWP.cond_true (tm rfl) (by rfl) ?_
 refine .sr (.mv rfl rfl (.p rfl (yW (tm rfl) zD) (.as rfl rfl (.ng (.ret ?_)))))
 refine Block.rt ?_
 refine Next.rt ?_
 refine Ret.go (.cons (.tmp _ _ rfl) .nil) _ (Heap.le.refl _) ?_
 refine ⟨?_, rfl⟩
 simp only [yZ, upB]
 congr 1
 exact decide_eq_decide.2 (cmp5 hr)

set_option maxRecDepth 100000 in
theorem baD (s : List UInt8) (hd : Digs s) (hl : s.length ≤ 100000) (H : Heap) : ACall Tryz.prog 169 [.str s] H (fun y H' => y = .str (aoL s) ∧ H' = H) := by
 have htl := afL s 57
 have hml := yB
 refine ACall.of_body Tryz.func169 rfl Tryz.ntmps169 Tryz.results169 rfl ?_
 refine .sr (.p rfl (zB (zU rfl)) (.nr (.mv rfl rfl (.cl rfl Tryz.call69 (.cons (tm rfl) (.cons (zU rfl) .nil)) (trimRightA 57 (by decide) s _) (.as rfl rfl (.nr (.mv rfl rfl (.p rfl (yF Tryz.underlying9 (tm rfl)) ?_))))))))
 refine .mv rfl rfl (.p rfl (yF Tryz.underlying9 (tm rfl)) (.p rfl (zW (tm rfl) (tm rfl) (by omega)) (.cl rfl Tryz.call93 (.cons (zU rfl) (evs1 rfl)) (repeatZ 48 _ (s.length - (Lib.trimRightB s 57).length) (by omega) (by omega) _) (.as rfl rfl (.ng (.seq (.sr (.mv rfl rfl ?_))))))))
 refine .p rfl (qN (tm rfl) (zU rfl)) (.ng ?_)
 refine AWP.cond (tm rfl) (fun hc14 => ?_) (fun hc14 => ?_)
 ·try simp only [decide_eq_true_eq] at hc14
  refine .sr (.mv rfl rfl (.p rfl (yY (zU rfl) (tm rfl) (by rw [yB, List.length_replicate]; simp only [List.length_cons, List.length_nil]; omega)) (.as rfl rfl (.ng (.ret ?_)))))
  refine Next.rt ?_
  refine Ret.go (.cons (.tmp _ _ rfl) .nil) _ (Heap.le.refl _) ?_
  refine ⟨?_, rfl⟩
  unfold aoL
  rw [if_pos hc14, hc14]; rfl
 ·try simp only [decide_eq_false_iff_not] at hc14
  have htp := List.length_pos_iff.2 hc14
  obtain ⟨h91, h92⟩ := last_9 hd hc14
  have htn : (((Lib.trimRightB s 57).length : Int) - 1).toNat = (Lib.trimRightB s 57).length - 1 := by omega
  rw [← htn] at h91 h92
  refine .skip ?_
  refine Next.go ?_
  refine .seq ?_
  refine AWP.draw [(0, true), (1, true), (2, true), (3, true), (4, true), (5, true), (6, true), (7, true), (8, true), (9, true), (10, true), (11, true), (12, true), (13, true), (14, true), (15, true)] rfl (by decide +kernel) ?_
  refine .p rfl rfl (zE (tm rfl)) (.p rfl rfl (zE (tm rfl)) (.p rfl rfl (yF Tryz.underlying9 (tm rfl)) (.p rfl rfl (zW (tm rfl) zD (by omega)) (.p rfl rfl (aaP Tryz.underlying9 (tm rfl) (tm rfl) (by omega) (by omega)) (.p rfl rfl (zE (tm rfl)) (.p rfl rfl (zE (tm rfl)) (.p rfl rfl (yF Tryz.underlying9 (tm rfl)) (.p rfl rfl (zW (tm rfl) zD (by omega)) ?_))))))))
  refine .p rfl rfl (qL Tryz.underlying9 (tm rfl) (tm rfl) (by omega) (by omega)) (.p rfl rfl (aoD (tm rfl) (zI 1) (by omega)) (.p rfl rfl (asA Tryz.underlying5 Tryz.underlying9 (tm rfl) (by omega)) (.p rfl rfl (yY (tm rfl) (tm rfl) (by rw [yB]; simp only [List.length_cons, List.length_nil, List.length_take]; omega)) (.p rfl rfl (zE (tm rfl)) (.p rfl rfl (yY (tm rfl) (tm rfl) (by rw [yB]; simp only [List.length_append, List.length_replicate, List.length_cons, List.length_nil, List.length_take]; omega)) (.p rfl rfl (zB (tm rfl)) (.nil ?_)))))))
  refine Next.go ?_
  refine .ret ?_
  refine Ret.go (.cons (.tmp _ _ rfl) .nil) _ (Heap.le.refl _) ?_
  refine ⟨?_, rfl⟩
  unfold aoL
  rw [if_neg hc14, ← htn]; rfl

set_option maxRecDepth 100000 in
theorem bbD (neg : Bool) (ds : List UInt8) (e : Int) (n : Nat) (hd : Digs ds) (hn : 0 < n) (hn2 : n < ds.length) (hl : ds.length ≤ 2000) (he : -200000 ≤ e ∧ e ≤ 200000) (H : Heap) : ACall Tryz.prog 123 [dA neg ds e, .int .i64 (n : Int), .int .i64 1] H (fun y H' => y = dT (cutD neg ds e n) ∧ H' = H) := by
 have hdn : ds.drop n ≠ [] := by intro h; have := congrArg List.length h; simp at this; omega
 have hil := akB (ds.take n)
 rw [List.length_take] at hil
 have hml := yB
 refine ACall.of_body Tryz.func123 rfl Tryz.ntmps123 Tryz.results123 rfl ?_
 refine .sr (.e rfl (yU (tm rfl) (.inr ⟨_, rfl⟩)) (.s rfl (zR Tryz.zeroValue48 (zr48)) ?_))
 rintro _ _ ⟨b6, hb6, rfl, hH⟩
 obtain rfl := hH.symm
 refine .p rfl (zB zD) (.nr (.p rfl (zG Tryz.underlying48 rfl Tryz.sizeOf3 (tm rfl)) (.p rfl (zF Tryz.isAgg3 (tm rfl)) (.p rfl (zG Tryz.underlying48 rfl Tryz.sizeOf9 (tm rfl)) (.p rfl (zF Tryz.isAgg9 (tm rfl)) (.p rfl (yF Tryz.underlying9 (tm rfl)) (.p rfl (zS (tm rfl) (tm rfl) (by omega)) (.mv rfl rfl ?_))))))))
 refine .p rfl (zW (tm rfl) (tm rfl) (by omega)) (.as rfl rfl (.ng (.seq ?_)))
 refine AWP.draw [(0, true), (1, true), (2, true), (3, true), (5, true), (6, true), (4, false), (7, true), (8, true), (9, true)] rfl (by decide +kernel) ?_
 refine .p rfl rfl (zE (tm rfl)) (.p rfl rfl (aaU (tm rfl) (by omega)) (.p rfl rfl (ahP (tm rfl) zD) (.p rfl rfl (acA zD (tm rfl)) (.p rfl rfl (zG Tryz.underlying48 rfl Tryz.sizeOf9 (tm rfl)) (.p rfl rfl (zF Tryz.isAgg9 (tm rfl)) (.s rfl rfl (zQ Tryz.call93 (.cons (zU rfl) (evs1 rfl)) (repeatZ 48 _ 0 (by simp only [avK, imin]; split <;> split <;> omega) (by omega) _)) ?_))))))
 rintro _ _ ⟨rfl, hH⟩
 obtain rfl := hH.symm
 refine .p rfl rfl (yY (tm rfl) (tm rfl) (by rw [yB, List.length_replicate]; omega)) (.p rfl rfl (zB (zU rfl)) (.p rfl rfl (zB (tm rfl)) (.nil ?_)))
 refine Next.go ?_
 refine .seq (.sr (.mv rfl rfl (.p rfl (yC (tm rfl) zD) (.ng ?_))))
 refine AWP.cond_true (tm rfl) (by exact decide_eq_true (by omega)) ?_
 refine AWP.draw [(0, true), (1, true), (2, true), (3, true), (4, true), (5, true), (6, true), (7, true), (8, true), (9, true)] rfl (by decide +kernel) ?_
 refine .p rfl rfl (zG Tryz.underlying48 rfl Tryz.sizeOf9 (tm rfl)) (.p rfl rfl (zF Tryz.isAgg9 (tm rfl)) (.p rfl rfl (zE (tm rfl)) (.p rfl rfl (aaP Tryz.underlying9 (tm rfl) (tm rfl) (by omega) (by omega)) (.p rfl rfl (zG Tryz.underlying48 rfl Tryz.sizeOf9 (tm rfl)) (.p rfl rfl (zF Tryz.isAgg9 (tm rfl)) (.p rfl rfl (zE (tm rfl)) (.p rfl rfl (aaX Tryz.underlying9 (tm rfl) (tm rfl) (by omega) (by omega)) (.p rfl rfl (zB (tm rfl)) ?_))))))))
 refine .p rfl rfl (zB (tm rfl)) (.nil ?_)
 refine Next.go ?_
 refine AWP.seqToL [(9, .str (if upB (ds.drop n) = true then aoL (ds.take n) else ds.take n))] [3, 6, 7, 8] ?_ ?_
 ·refine .sr (.p rfl (zG Tryz.underlying48 rfl Tryz.sizeOf4 (tm rfl)) (.p rfl (zF Tryz.isAgg4 (tm rfl)) (.mv rfl rfl (.mv rfl rfl (.mv rfl rfl (.cl rfl Tryz.call168 (.cons (tm rfl) (evs3 rfl rfl rfl)) (bbY neg _ _ hdn _) (.ng ?_)))))))
  refine AWP.cond (tm rfl) (fun hc42 => ?_) (fun hc42 => ?_)
  ·try simp only [decide_eq_true_eq, decide_eq_false_iff_not, Bool.not_eq_true', Bool.not_eq_false', Int.not_lt, Int.not_le, ne_eq, Decidable.not_not] at hc42
   refine .region (.mv rfl rfl (.cl rfl Tryz.call169 (evs1 rfl) (baD (ds.take n) (hd.take n) (by rw [List.length_take]; omega) _) (.as rfl rfl (.nil ?_))))
   exact ⟨rfl, (yE rfl (by (rw [if_pos (show upB (ds.drop n) = true from hc42)]; done)) (zA rfl (zA rfl (zA rfl (zA rfl zK))))), rfl⟩
  ·try simp only [decide_eq_true_eq, decide_eq_false_iff_not, Bool.not_eq_true', Bool.not_eq_false', Int.not_lt, Int.not_le, ne_eq, Decidable.not_not] at hc42
   refine .skip ?_
   exact ⟨rfl, (yE rfl (by (rw [if_neg (show ¬ upB (ds.drop n) = true from by first | exact hc42 | (intro q; rw [show upB (ds.drop n) = false from hc42] at q; cases q))]; rfl)) (zA rfl (zA rfl (zA rfl (zA rfl zK))))), rfl⟩
 ·refine AWP.sub [(9, _), (3, _), (6, _), (7, _), (8, _)] (zA rfl (zA rfl (zA rfl (zA rfl (zA rfl zK))))) ?_
  refine .sr (.p rfl (zG Tryz.underlying48 rfl Tryz.sizeOf4 (tm rfl)) (.p rfl (zF Tryz.isAgg4 (tm rfl)) (.mv rfl rfl (.mv rfl rfl ?_))))
  refine .cl rfl Tryz.call34 (evs3 rfl rfl rfl) (aiV neg (if upB (ds.drop n) = true then aoL (ds.take n) else ds.take n) _ (by split; exact amD (hd.take n); exact hd.take n) (by split; omega; rw [List.length_take]; omega) (by constructor <;> omega) _) ?_
  refine .p rfl (zC (tm rfl) rfl) (.p rfl (zC (tm rfl) rfl) (.e0 (zH Tryz.sizeOf48 (tm rfl) (tm rfl) rfl rfl (.inr ⟨_, rfl⟩) (Heap.objs_set_same _ _ _) (Nat.le_of_ble_eq_true rfl)) ?_))
  try first | rw [Heap.set_set] | rw [Heap.set_under (by assumption)]
  refine .as rfl rfl (.ng ?_)
  refine AWP.frz (t := 6) rfl (hb6) ?_
  refine .ret ?_
  refine Ret.go (.cons (.cellI _ _ _ _ rfl Tryz.isAgg48 Tryz.sizeOf48 rfl) (.cons (.tmp _ _ rfl) .nil)) _ (Heap.le.refl _) ?_
  refine ⟨?_, rfl⟩
  rfl

set_option maxRecDepth 100000 in
theorem bgJ (neg : Bool) (ds : List UInt8) (e : Int) (n : Nat) (hr : qE ds e = true) (hn : 0 < n) (hn2 : n ≤ 100000) (H : Heap) : ACall Tryz.prog 76 [dA neg ds e, .int .i64 (n : Int), .int .i64 1] H (fun y H' => y = dT (sigD neg ds e n) ∧ H' = H) := by
 have hk1 : (!qE ds e) = false := by rw [hr]; rfl
 have hrl := aaL hr
 have hdd := qS hr
 refine ACall.of_body Tryz.func76 rfl Tryz.ntmps76 Tryz.results76 rfl ?_
 refine .sr (.e rfl (yU (tm rfl) (.inr ⟨_, rfl⟩)) (.s rfl (zR Tryz.zeroValue48 (zr48)) ?_))
 rintro _ _ ⟨b6, hb6, rfl, hH⟩
 obtain rfl := hH.symm
 refine .p rfl (zB zD) (.ng (.seq (.block (.sr (.p rfl (zY Tryz.isAgg48 Tryz.sizeOf48 (tm rfl) (Nat.le_of_ble_eq_true rfl)) (.cl rfl Tryz.call60 (evs1 rfl) (adR neg ds e hdd _) (.p rfl (qO (tm rfl)) (.mv rfl rfl ?_))))))))
 refine .gp rfl rfl rfl (by assumption) (zE (tm rfl)) (.gp rfl rfl rfl (by assumption) (zZ (tm rfl) zD) (.p rfl (zM (tm rfl) (by assumption) (tm rfl)) (.mv rfl rfl (.gp rfl rfl rfl (by rfl) (zE (tm rfl)) (.gp rfl rfl rfl (by rfl) (yC (tm rfl) zD) (.p rfl (zM (tm rfl) (by rfl) (tm rfl)) (.mv rfl rfl (.gp rfl rfl rfl (by rfl) (zE (tm rfl)) ?_))))))))
 refine .gp rfl rfl rfl (by rfl) (zZ (tm rfl) zD) (.p rfl (zM (tm rfl) (by rfl) (tm rfl)) (.as rfl rfl (.ng ?_)))
 refine AWP.cond_false (tm rfl) (by exact decide_eq_false (by omega)) ?_
 refine .sr (.mv rfl rfl (.p rfl (zG Tryz.underlying48 rfl Tryz.sizeOf9 (tm rfl)) (.p rfl (zF Tryz.isAgg9 (tm rfl)) (.p rfl (yF Tryz.underlying9 (tm rfl)) (.p rfl (yW (tm rfl) (tm rfl)) (.as rfl rfl (.ng ?_)))))))
 refine AWP.cond (tm rfl) (fun hc25 => ?_) (fun hc25 => ?_)
 ·try simp only [decide_eq_true_eq] at hc25
  refine .sr (.p rfl (zY Tryz.isAgg48 Tryz.sizeOf48 (tm rfl) (Nat.le_of_ble_eq_true rfl)) (.e0 (zH Tryz.sizeOf48 (tm rfl) (tm rfl) rfl rfl (.inr ⟨_, rfl⟩) (Heap.objs_set_same _ _ _) (Nat.le_of_ble_eq_true rfl)) ?_))
  try first | rw [Heap.set_set] | rw [Heap.set_under (by assumption)]
  refine .p rfl (zB zD) (.ng ?_)
  refine AWP.frz (t := 6) rfl (hb6) ?_
  refine .ret ?_
  refine Block.rt ?_
  refine Next.rt ?_
  refine Ret.go (.cons (.cellI _ _ _ _ rfl Tryz.isAgg48 Tryz.sizeOf48 rfl) (.cons (.tmp _ _ rfl) .nil)) _ (Heap.le.refl _) ?_
  refine ⟨?_, rfl⟩
  unfold sigD
  rw [if_pos (by omega)]; rfl
 ·try simp only [decide_eq_false_iff_not, Int.not_le] at hc25
  refine .skip ?_
  refine Block.go ?_
  refine Next.go ?_
  refine .sr (.p rfl (zY Tryz.isAgg48 Tryz.sizeOf48 (tm rfl) (Nat.le_of_ble_eq_true rfl)) (.mv rfl rfl (.mv rfl rfl (.cl rfl Tryz.call123 (evs3 rfl rfl rfl) (bbD neg ds e n hdd hn (by omega) (by omega) (by omega) _) (.p rfl (zC (tm rfl) rfl) (.p rfl (zC (tm rfl) rfl) (.e0 (zH Tryz.sizeOf48 (tm rfl) (tm rfl) rfl rfl (.inr ⟨_, rfl⟩) (Heap.objs_set_same _ _ _) (Nat.le_of_ble_eq_true rfl)) ?_)))))))
  try first | rw [Heap.set_set] | rw [Heap.set_under (by assumption)]
  refine .as rfl rfl (.ng ?_)
  refine AWP.frz (t := 6) rfl (hb6) ?_
  refine .ret ?_
  refine Ret.go (.cons (.cellI _ _ _ _ rfl Tryz.isAgg48 Tryz.sizeOf48 rfl) (.cons (.tmp _ _ rfl) .nil)) _ (Heap.le.refl _) ?_
  refine ⟨?_, rfl⟩
  unfold sigD
  rw [if_neg (by omega)]; rfl
theorem bytes_U (s : List UInt8) (k : Nat) : s.map bv ++ List.replicate k (.int .u8 0) = U .u8 (s.map UInt8.toNat ++ List.replicate k 0) := by
 rw [← aqU]
 unfold U
 rw [List.map_map, List.map_replicate]; rfl
theorem U_bytes (l : List UInt8) : U .u8 (l.map UInt8.toNat) = l.map bv := by
 unfold U; rw [List.map_map]; rfl
def avL (rest : List UInt8) : Int := if rest = [53] then 0 else if (decide ((53 : Int) < (((rest.getD 0 0).toNat : Nat) : Int)) || (decide ((((rest.getD 0 0).toNat : Nat) : Int) = 53) && decide ((1 : Int) < (rest.length : Int)))) = true then 1 else -1
theorem half_up {rest : List UInt8} (h : rest ≠ []) : decide ((0 : Int) ≤ avL rest) = upB rest := by
 unfold avL upB
 apply decide_eq_decide.2
 cases rest with
 | nil => exact absurd rfl h
 | cons x r =>
  simp only [List.getD_cons_zero]
  split
  ·rename_i h1
   have : x = 53 := by simp at h1; exact h1.1
   rw [this]; decide
  ·rename_i h1
   have h2 : x.toNat = 53 → r ≠ [] := fun q q2 => h1 (by rw [q2, UInt8.toNat_inj.1 (show x.toNat = (53 : UInt8).toNat from q)])
   split
   ·rename_i h3
    simp only [Bool.or_eq_true, Bool.and_eq_true, decide_eq_true_eq] at h3
    omega
   ·rename_i h3
    simp only [Bool.or_eq_true, Bool.and_eq_true, decide_eq_true_eq, not_or, not_and] at h3
    constructor
    ·intro q; omega
    ·intro q
     have h4 : x.toNat = 53 := by omega
     have h5 := List.length_pos_iff.2 (h2 h4)
     have h6 := h3.2 (by omega)
     simp only [List.length_cons] at h6
     omega
theorem auE {ks ts : List Nat} {n j : Nat} (hk : ks.length = n) (h1 : 1 ≤ j) (hj : j ≤ n) : (ks.take j ++ List.replicate (n - j) 48 ++ ts).getD (j - 1) 0 = ks.getD (j - 1) 0 := by
 rw [List.append_assoc, List.getD_eq_getElem?_getD, List.getElem?_append_left (by rw [List.length_take]; omega), List.getElem?_take_of_lt (by omega), List.getD_eq_getElem?_getD]
theorem bdE {ks ts : List Nat} {n j : Nat} (hk : ks.length = n) (h1 : 1 ≤ j) (hj : j ≤ n) (v : Nat) : (ks.take j ++ List.replicate (n - j) 48 ++ ts).set (j - 1) v = (ks.take (j - 1) ++ [v] ++ List.replicate (n - j) 48) ++ ts := by
 have e : ks.take j = ks.take (j - 1) ++ [ks[j - 1]'(by omega)] := by
  rw [List.take_append_getElem (by omega), show j - 1 + 1 = j by omega]
 rw [List.append_assoc, List.set_append_left _ _ (by rw [List.length_take]; omega), e, List.set_append_right _ _ (by rw [List.length_take]; omega), List.length_take, show j - 1 - min (j - 1) ks.length = 0 by omega]
 simp
theorem row_nine {ks ts : List Nat} {n j : Nat} (hk : ks.length = n) (h1 : 1 ≤ j) (hj : j ≤ n) : (ks.take j ++ List.replicate (n - j) 48 ++ ts).set (j - 1) 48 = ks.take (j - 1) ++ List.replicate (n - (j - 1)) 48 ++ ts := by
 rw [bdE hk h1 hj, show n - (j - 1) = (n - j) + 1 by omega, List.replicate_succ]
 simp
theorem akX {ks ts : List Nat} {n j : Nat} (hk : ks.length = n) (hj : j ≤ n) : (ks.take j ++ List.replicate (n - j) 48).length = n ∧ n ≤ (ks.take j ++ List.replicate (n - j) 48 ++ ts).length := by
 simp only [List.length_append, List.length_take, List.length_replicate]; omega
theorem ajZ {s : List UInt8} {q : Nat} : (s.map UInt8.toNat).getD q 0 = (s.getD q 0).toNat := by
 rw [List.getD_eq_getElem?_getD, List.getD_eq_getElem?_getD, List.getElem?_map]
 cases s[q]? <;> rfl
theorem inc_all {s : List UInt8} (h : Lib.trimRightB s 57 = []) : (aoL s).map UInt8.toNat = [49] ++ List.replicate s.length 48 := by
 unfold aoL; rw [if_pos h]; simp
theorem inc_at {s : List UInt8} {j : Nat} (hd : Digs s) (h1 : 1 ≤ j) (hj : j ≤ s.length) (h : Lib.trimRightB s 57 = s.take j) : (aoL s).map UInt8.toNat = (s.map UInt8.toNat).take (j - 1) ++ [(s.map UInt8.toNat).getD (j - 1) 0 + 1] ++ List.replicate (s.length - j) 48 := by
 have hl : (s.take j).length = j := by rw [List.length_take]; omega
 unfold aoL
 rw [h, if_neg (fun q => by rw [q] at hl; simp at hl; omega), hl, List.take_take, Nat.min_eq_left (by omega), ajZ]
 have e : (s.take j).getD (j - 1) 0 = s.getD (j - 1) 0 := by
  rw [List.getD_eq_getElem?_getD, List.getElem?_take_of_lt (by omega), List.getD_eq_getElem?_getD]
 have hb := hd.at (show j - 1 < s.length by omega)
 rw [e]
 simp only [List.map_append, List.map_take, List.map_cons, List.map_nil, List.map_replicate]
 congr 2
 ·congr 2
  rw [UInt8.toNat_ofNat']; omega
theorem avO {H : Heap} {b c : Nat} {x : AObj} (h : (H.set b x).objs c = none) (x' : AObj) : (H.set b x').objs c = none := Heap.fresh_set h x'

def rcut_J (neg : Bool) (ds : List UInt8) (e : Int) (n b6 b c : Nat) (ts : List Nat) (H : Heap) : Nat → Env → Heap → Prop := fun k env H1 => ∃ j : Nat, j ≤ n ∧ (∀ q, j ≤ q → q < n → (ds.take n).getD q 0 = 57) ∧ env = [(3, .iptr [.bool neg, .str ds, .int .i64 e]), (6, .ptr (some ⟨b6, 0, none⟩)), (8, .int .i64 (e + (ds.length : Int) - (n : Int))), (9, .mslice (some ⟨b, 0, none⟩) n c), (14, .int .i64 ((j : Int) - 1))] ∧ H1 = (H.set b6 (.box 48 [.bool false, .str [], .int .i64 0])).set b (.box 5 (U .u8 (((ds.take n).map UInt8.toNat).take j ++ List.replicate (n - j) 48 ++ ts))) ∧ k = j

set_option maxRecDepth 100000 in
theorem auI (neg : Bool) (ds : List UInt8) (e : Int) (n : Nat) (hd : Digs ds) (hn : 0 < n) (hn2 : n < ds.length) (hl : ds.length ≤ 2000) (he : -200000 ≤ e ∧ e ≤ 200000) (H : Heap) : ACall Tryz.prog 84 [dA neg ds e, .int .i64 (n : Int), .int .i64 1] H (fun y H' => y = dT (cutD neg ds e n) ∧ H' = H) := by
 have hdn : ds.drop n ≠ [] := by intro h; have := congrArg List.length h; simp at this; omega
 have hup := half_up hdn
 have hil := akB (ds.take n)
 have hkn : (ds.take n).length = n := by rw [List.length_take]; omega
 have hks : ((ds.take n).map UInt8.toNat).length = n := by rw [List.length_map, hkn]
 have hml := yB
 have hnp : decide ((0 : Int) < (n : Int)) = true := decide_eq_true (by omega)
 have hdp := List.length_pos_iff.2 hdn
 have hkd := hd.take n
 refine ACall.of_body Tryz.func84 rfl Tryz.ntmps84 Tryz.results84 rfl ?_
 refine .sr (.e rfl (yU (tm rfl) (.inr ⟨_, rfl⟩)) (.s rfl (zR Tryz.zeroValue48 (zr48)) ?_))
 rintro _ _ ⟨b6, hb6, rfl, hH⟩
 obtain rfl := hH.symm
 refine .p rfl (zB zD) (.nr (.p rfl (zG Tryz.underlying48 rfl Tryz.sizeOf3 (tm rfl)) (.p rfl (zF Tryz.isAgg3 (tm rfl)) (.p rfl (zG Tryz.underlying48 rfl Tryz.sizeOf9 (tm rfl)) (.p rfl (zF Tryz.isAgg9 (tm rfl)) (.p rfl (yF Tryz.underlying9 (tm rfl)) (.p rfl (zS (tm rfl) (tm rfl) (by omega)) (.mv rfl rfl ?_))))))))
 refine .p rfl (zW (tm rfl) (tm rfl) (by omega)) (.as rfl rfl (.nr (.p rfl (zG Tryz.underlying48 rfl Tryz.sizeOf9 (tm rfl)) (.p rfl (zF Tryz.isAgg9 (tm rfl)) (.mv rfl rfl (.p rfl (aaP Tryz.underlying9 (tm rfl) (tm rfl) (by omega) (by omega)) (.s rfl (ayV Tryz.underlying9 Tryz.underlying174 Tryz.underlying5 (tm rfl) (by (rw [List.length_take]; omega))) ?_)))))))
 rintro _ _ ⟨b27, c27, rfl, hcl27, hcm27, hb27, hH⟩
 obtain rfl := hH.symm
 refine .as rfl rfl (.ng (.seq ?_))
 have hcl : n ≤ c27 := by rw [← hkn]; exact hcl27
 rw [bytes_U, show ((n : Int)).toNat = n from rfl, hkn]
 generalize hts : List.replicate (c27 - n) 0 = ts
 have hrow0 : ((ds.take n).map UInt8.toNat) ++ ts = ((ds.take n).map UInt8.toNat).take n ++ List.replicate (n - n) 48 ++ ts := by rw [List.take_of_length_le (l := ((ds.take n).map UInt8.toNat)) (Nat.le_of_eq hks), Nat.sub_self, List.replicate_zero, List.append_nil]
 refine .region (.p rfl (zG Tryz.underlying48 rfl Tryz.sizeOf9 (tm rfl)) (.p rfl (zF Tryz.isAgg9 (tm rfl)) (.mv rfl rfl (.p rfl (aaX Tryz.underlying9 (tm rfl) (tm rfl) (by omega) (by omega)) (.as rfl rfl (.ng (.seq ?_)))))))
 rw [show ((n : Int)).toNat = n from rfl]
 refine .region (.p rfl (zB zD) (.ng ?_))
 refine AWP.seqToL [(11, .int .i64 (avL (ds.drop n)))] [1, 2, 3, 6, 7, 8, 9, 10] ?_ ?_
 ·refine .sr (.mv rfl rfl (.p rfl (qP (tm rfl) (zU rfl)) (.ng ?_)))
  refine AWP.cond_true (tm rfl) (by show (!decide (ds.drop n = [])) = true; rw [decide_eq_false hdn]; rfl) ?_
  refine .sr (.p rfl (zB zD) (.ng ?_))
  refine AWP.seqToL [(11, .int .i64 (if (decide ((53 : Int) < ((((ds.drop n).getD 0 0).toNat : Nat) : Int)) || (decide (((((ds.drop n).getD 0 0).toNat : Nat) : Int) = 53) && decide ((1 : Int) < ((ds.drop n).length : Int)))) = true then 1 else -1))] [1, 2, 3, 6, 7, 8, 9, 10] ?_ ?_
  ·refine AWP.seqTo 46 (.bool ((decide ((53 : Int) < ((((ds.drop n).getD 0 0).toNat : Nat) : Int)) || (decide (((((ds.drop n).getD 0 0).toNat : Nat) : Int) = 53) && decide ((1 : Int) < ((ds.drop n).length : Int)))))) [1, 2, 3, 6, 7, 8, 9, 10, 11] ?_ ?_
   ·-- region 7
    refine .region (.mv rfl rfl (.p rfl (qL Tryz.underlying9 (tm rfl) zD (by omega) (by omega)) (.p rfl (yC (tm rfl) (zI 53)) (.mv rfl rfl ?_))))
    refine zP (t := 37) rfl (fun hg37 => ?_) (fun hg37 => ?_)
    ·have hh37 := hg37; try simp only [decide_eq_true_eq] at hh37
     refine .gn rfl rfl rfl (by assumption) (.gn rfl rfl rfl (by assumption) (.gn rfl rfl rfl (by assumption) (.gn rfl rfl rfl (by assumption) ?_)))
     refine AList.gdead rfl rfl rfl ?_
     refine AList.gdead rfl rfl rfl ?_
     refine AList.gdead rfl rfl rfl ?_
     refine .gn rfl rfl rfl (by assumption) (.p rfl (zO (tm rfl) (by assumption) zL) (.nil ?_))
     exact ⟨rfl, yP rfl (by (rw [show decide ((53 : Int) < ((((ds.drop n).getD 0 0).toNat : Nat) : Int)) = _ from hg37]; rfl)) (zA rfl (zA rfl (zA rfl (zA rfl (zA rfl (zA rfl (zA rfl (zA rfl (zA rfl zK))))))))), rfl⟩
    ·have hh37 := hg37; try simp only [decide_eq_false_iff_not, Int.not_lt] at hh37
     refine .gp rfl rfl rfl (by assumption) (zE (tm rfl)) (.gp rfl rfl rfl (by assumption) (qL Tryz.underlying9 (tm rfl) zD (by omega) (by omega)) (.gp rfl rfl rfl (by assumption) (zX (tm rfl) (zI 53)) (.gp rfl rfl rfl (by assumption) (zE (tm rfl)) ?_)))
     refine zP (t := 41) rfl (fun hg41 => ?_) (fun hg41 => ?_)
     ·have hh41 := hg41; try simp only [decide_eq_true_eq] at hh41
      refine .gp rfl rfl rfl (by assumption) (zE (tm rfl)) (.gp rfl rfl rfl (by assumption) (yF Tryz.underlying9 (tm rfl)) (.gp rfl rfl rfl (by assumption) (yC (tm rfl) zD) (.gp rfl rfl rfl (by assumption) (zO (tm rfl) (by assumption) (tm rfl)) (.p rfl (zM (tm rfl) (by assumption) (tm rfl)) (.nil ?_)))))
      exact ⟨rfl, yP rfl (by (rw [show decide ((53 : Int) < ((((ds.drop n).getD 0 0).toNat : Nat) : Int)) = _ from hg37, show decide (((((ds.drop n).getD 0 0).toNat : Nat) : Int) = 53) = _ from hg41]; rfl)) (zA rfl (zA rfl (zA rfl (zA rfl (zA rfl (zA rfl (zA rfl (zA rfl (zA rfl zK))))))))), rfl⟩
     ·have hh41 := hg41; try simp only [decide_eq_false_iff_not] at hh41
      refine .gn rfl rfl rfl (by assumption) (.gn rfl rfl rfl (by assumption) (.gn rfl rfl rfl (by assumption) (.gp rfl rfl rfl (by assumption) (zM (tm rfl) (by assumption) zL) (.p rfl (zM (tm rfl) (by assumption) (tm rfl)) (.nil ?_)))))
      exact ⟨rfl, yP rfl (by (rw [show decide ((53 : Int) < ((((ds.drop n).getD 0 0).toNat : Nat) : Int)) = _ from hg37, show decide (((((ds.drop n).getD 0 0).toNat : Nat) : Int) = 53) = _ from hg41]; rfl)) (zA rfl (zA rfl (zA rfl (zA rfl (zA rfl (zA rfl (zA rfl (zA rfl (zA rfl zK))))))))), rfl⟩
   ·refine AWP.sub [(46, _), (1, _), (2, _), (3, _), (6, _), (7, _), (8, _), (9, _), (10, _), (11, _)] (zA rfl (zA rfl (zA rfl (zA rfl (zA rfl (zA rfl (zA rfl (zA rfl (zA rfl (zA rfl zK)))))))))) ?_
    refine AWP.cond (tm rfl) (fun hc46 => ?_) (fun hc46 => ?_)
    ·try simp only [decide_eq_true_eq, decide_eq_false_iff_not, Bool.not_eq_true', Bool.not_eq_false', Int.not_lt, Int.not_le, ne_eq, Decidable.not_not] at hc46
     refine .region (.p rfl (zB zD) (.nil ?_))
     exact ⟨rfl, (yE rfl (by (rw [if_pos hc46]; done)) (zA rfl (zA rfl (zA rfl (zA rfl (zA rfl (zA rfl (zA rfl (zA rfl zK))))))))), rfl⟩
    ·try simp only [decide_eq_true_eq, decide_eq_false_iff_not, Bool.not_eq_true', Bool.not_eq_false', Int.not_lt, Int.not_le, ne_eq, Decidable.not_not] at hc46
     refine .skip ?_
     exact ⟨rfl, (yE rfl (by (rw [if_neg (by rw [hc46]; decide)]; done)) (zA rfl (zA rfl (zA rfl (zA rfl (zA rfl (zA rfl (zA rfl (zA rfl zK))))))))), rfl⟩
  ·refine AWP.sub [(11, _), (1, _), (2, _), (3, _), (6, _), (7, _), (8, _), (9, _), (10, _)] (zA rfl (zA rfl (zA rfl (zA rfl (zA rfl (zA rfl (zA rfl (zA rfl (zA rfl zK))))))))) ?_
   refine .sr (.mv rfl rfl (.p rfl (qN (tm rfl) (zU rfl)) (.ng ?_)))
   refine AWP.cond (tm rfl) (fun hc48 => ?_) (fun hc48 => ?_)
   ·try simp only [decide_eq_true_eq] at hc48
    refine .region (.p rfl (zB zD) (.nil ?_))
    exact ⟨rfl, (yE rfl (by unfold avL; first | (rw [if_pos (show ds.drop n = [53] from hc48)]; done) | (rw [if_neg (show ¬ ds.drop n = [53] from hc48)]; done)) (zA rfl (zA rfl (zA rfl (zA rfl (zA rfl (zA rfl (zA rfl (zA rfl zK))))))))), rfl⟩
   ·try simp only [decide_eq_false_iff_not] at hc48
    refine .skip ?_
    exact ⟨rfl, (yE rfl (by unfold avL; first | (rw [if_pos (show ds.drop n = [53] from hc48)]; done) | (rw [if_neg (show ¬ ds.drop n = [53] from hc48)]; done)) (zA rfl (zA rfl (zA rfl (zA rfl (zA rfl (zA rfl (zA rfl (zA rfl zK))))))))), rfl⟩
 ·refine AWP.sub [(11, _), (1, _), (2, _), (3, _), (6, _), (7, _), (8, _), (9, _), (10, _)] (zA rfl (zA rfl (zA rfl (zA rfl (zA rfl (zA rfl (zA rfl (zA rfl (zA rfl zK))))))))) ?_
  refine AWP.seqTo 12 (.bool (decide (((((ds.take n).map UInt8.toNat) ++ ts).getD (n - 1) 0 % 2 : Nat) = (1 : Int)))) [11, 1, 2, 3, 6, 7, 8, 9, 10] ?_ ?_
  ·-- region 11
   refine .region (.mv rfl rfl (.p rfl (yC (tm rfl) zD) (.mv rfl rfl (.gp rfl rfl rfl (by assumption) (zE (tm rfl)) (.gp rfl rfl rfl (by assumption) (zE (tm rfl)) (.gp rfl rfl rfl (by assumption) (zW (tm rfl) zD (by omega)) (.gp rfl rfl rfl (by assumption) (yM (n - 1) Tryz.underlying174 Tryz.sizeOf5 (tm rfl) (tm rfl) (by omega) (by omega)) (.gs rfl rfl rfl (by assumption) (qG Tryz.isAgg5 (tm rfl) (Heap.objs_set_same _ _ _) (by (rw [List.length_append, List.length_map, List.length_take]; omega))) ?_))))))))
   rintro _ _ ⟨rfl, hH⟩
   obtain rfl := hH.symm
   refine .gp rfl rfl rfl (by assumption) (bdS (tm rfl) (zI 2) (by omega)) (.gp rfl rfl rfl (by assumption) (zX (tm rfl) (zI 1)) (.p rfl (zO (tm rfl) (by assumption) (tm rfl)) (.as rfl rfl (.nil ?_))))
   exact ⟨rfl, yP rfl (by rfl) (zA rfl (zA rfl (zA rfl (zA rfl (zA rfl (zA rfl (zA rfl (zA rfl (zA rfl zK))))))))), rfl⟩
  ·refine AWP.sub [(12, _), (11, _), (1, _), (2, _), (3, _), (6, _), (7, _), (8, _), (9, _), (10, _)] (zA rfl (zA rfl (zA rfl (zA rfl (zA rfl (zA rfl (zA rfl (zA rfl (zA rfl (zA rfl zK)))))))))) ?_
   refine .sr (.p rfl (zB zL) (.ng (.seq (.sr (.mv rfl rfl (.ng (.block (.sr ?_))))))))
   refine .p rfl (zX (tm rfl) zD) (.as rfl rfl (.ng ?_))
   refine AWP.cond_false (tm rfl) (by rfl) ?_
   refine .sr (.p rfl (zX (tm rfl) zD) (.as rfl rfl (.ng ?_)))
   refine AWP.cond_true (tm rfl) (by rfl) ?_
   refine .region (.mv rfl rfl (.p rfl (yW (tm rfl) zD) (.as rfl rfl (.nil ?_))))
   refine Block.go ?_
   refine Next.go ?_
   refine AWP.meet (fun env H2 => ∃ (b c : Nat) (zs ts : List Nat), zs = (if upB (ds.drop n) = true then aoL (ds.take n) else ds.take n).map UInt8.toNat ∧ zs.length ≤ c ∧ c ≤ maxLen ∧ (H.set b6 (.box 48 [.bool false, .str [], .int .i64 0])).objs b = none ∧ env = [(3, .iptr [.bool neg, .str ds, .int .i64 e]), (6, .ptr (some ⟨b6, 0, none⟩)), (8, .int .i64 (e + (ds.length : Int) - (n : Int))), (9, .mslice (some ⟨b, 0, none⟩) zs.length c)] ∧ H2 = (H.set b6 (.box 48 [.bool false, .str [], .int .i64 0])).set b (.box 5 (U .u8 (zs ++ ts)))) ?_ ?_
   ·refine AWP.seqTo 91 (.bool (upB (ds.drop n))) [1, 3, 6, 7, 8, 9] ?_ ?_
    ·-- region 24
     refine .region (.mv rfl rfl (.mv rfl rfl ?_))
     refine zP (t := 88) rfl (fun hg88 => ?_) (fun hg88 => ?_)
     ·have hh88 := hg88; try simp only [decide_eq_true_eq] at hh88
      refine .gp rfl rfl rfl (by assumption) (zE (tm rfl)) (.gp rfl rfl rfl (by assumption) (qP (tm rfl) (zU rfl)) (.p rfl (zO (tm rfl) (by assumption) (tm rfl)) (.nil ?_)))
      exact ⟨rfl, yP rfl (by (rw [← hup, show decide ((0 : Int) ≤ avL (ds.drop n)) = _ from hg88]; show (!decide (ds.drop n = [])) = true; rw [decide_eq_false hdn]; rfl)) (zA rfl (zA rfl (zA rfl (zA rfl (zA rfl (zA rfl zK)))))), rfl⟩
     ·have hh88 := hg88; try simp only [decide_eq_false_iff_not, Int.not_le] at hh88
      refine .gn rfl rfl rfl (by assumption) (.gn rfl rfl rfl (by assumption) (.p rfl (zM (tm rfl) (by assumption) zL) (.nil ?_)))
      exact ⟨rfl, yP rfl (by (rw [← hup, show decide ((0 : Int) ≤ avL (ds.drop n)) = _ from hg88]; done)) (zA rfl (zA rfl (zA rfl (zA rfl (zA rfl (zA rfl zK)))))), rfl⟩
    ·refine AWP.sub [(91, _), (1, _), (3, _), (6, _), (7, _), (8, _), (9, _)] (zA rfl (zA rfl (zA rfl (zA rfl (zA rfl (zA rfl (zA rfl zK))))))) ?_
     refine AWP.cond (tm rfl) (fun hc91 => ?_) (fun hc91 => ?_)
     ·try simp only [decide_eq_true_eq, decide_eq_false_iff_not, Bool.not_eq_true', Bool.not_eq_false', Int.not_lt, Int.not_le, ne_eq, Decidable.not_not] at hc91
      refine .sr (.mv rfl rfl (.p rfl (zW (tm rfl) zD (by omega)) (.as rfl rfl (.ng (.seq (.block ?_))))))
      refine AWP.loopW (rcut_J neg ds e n b6 b27 c27 ts H) (n) ⟨n, Nat.le_refl _, fun q h1 h2 => by omega, rfl, by rw [hrow0], rfl⟩ (zA rfl (zA rfl (zA rfl (zA rfl (zA rfl zK))))) (Heap.le.refl _) ?_
      rintro _ _ _ ⟨j, hj, h9, rfl, rfl, hk⟩
      refine .seq ?_
      refine AWP.seqTo 102 (.bool (decide ((0 : Int) ≤ (j : Int) - 1) && decide ((((((ds.take n).map UInt8.toNat).take j ++ List.replicate (n - j) 48 ++ ts).getD (j - 1) 0 : Nat) : Int) = ((57 : Nat) : Int)))) [3, 6, 8, 9, 14] ?_ ?_
      ·-- region 26
       refine .region (.mv rfl rfl (.p rfl (yW (tm rfl) zD) (.mv rfl rfl ?_)))
       refine zP (t := 96) rfl (fun hg96 => ?_) (fun hg96 => ?_)
       ·have hh96 := hg96; try simp only [decide_eq_true_eq] at hh96
        refine .gp rfl rfl rfl (by assumption) (zE (tm rfl)) (.gp rfl rfl rfl (by assumption) (zE (tm rfl)) (.gp rfl rfl rfl (by assumption) (yM (j - 1) Tryz.underlying174 Tryz.sizeOf5 (tm rfl) (tm rfl) (by omega) (by omega)) ?_))
        refine .gs rfl rfl rfl (by assumption) (qG Tryz.isAgg5 (tm rfl) (Heap.objs_set_same _ _ _) (by (have := (akX (ts := ts) hks (show j ≤ n by omega)).2; omega))) ?_
        rintro _ _ ⟨rfl, hH⟩
        obtain rfl := hH.symm
        refine .gp rfl rfl rfl (by assumption) (zX (tm rfl) (zI 57)) (.p rfl (zO (tm rfl) (by assumption) (tm rfl)) (.nil ?_))
        exact ⟨rfl, yP rfl (by (rw [show decide ((0 : Int) ≤ (j : Int) - 1) = _ from hg96]; rfl)) (zA rfl (zA rfl (zA rfl (zA rfl (zA rfl zK))))), rfl⟩
       ·have hh96 := hg96; try simp only [decide_eq_false_iff_not, Int.not_le] at hh96
        refine .gn rfl rfl rfl (by assumption) (.gn rfl rfl rfl (by assumption) (.gn rfl rfl rfl (by assumption) (.gn rfl rfl rfl (by assumption) (.gn rfl rfl rfl (by assumption) (.p rfl (zM (tm rfl) (by assumption) zL) (.nil ?_))))))
        exact ⟨rfl, yP rfl (by (rw [show decide ((0 : Int) ≤ (j : Int) - 1) = _ from hg96]; rfl)) (zA rfl (zA rfl (zA rfl (zA rfl (zA rfl zK))))), rfl⟩
      ·refine AWP.sub [(102, _), (3, _), (6, _), (8, _), (9, _), (14, _)] (zA rfl (zA rfl (zA rfl (zA rfl (zA rfl (zA rfl zK)))))) ?_
       refine AWP.cond (tm rfl) (fun hc102 => ?_) (fun hc102 => ?_)
       ·try simp only [decide_eq_true_eq, decide_eq_false_iff_not, Bool.not_eq_true', Bool.not_eq_false', Int.not_lt, Int.not_le, ne_eq, Decidable.not_not] at hc102
        simp only [Bool.and_eq_true, decide_eq_true_eq] at hc102
        obtain ⟨hj1, hc102b⟩ := hc102
        have hgr := auE (ts := ts) hks (show 1 ≤ j by omega) hj
        have h57 : (ds.take n).getD (j - 1) 0 = 57 := by
         have h := hc102b
         rw [hgr, ajZ] at h
         exact UInt8.toNat_inj.1 (show _ = (57 : UInt8).toNat by simp only [UInt8.reduceToNat]; omega)
        refine .skip ?_
        refine Next.go ?_
        refine .block (.sr (.mv rfl rfl (.mv rfl rfl (.p rfl (yM (j - 1) Tryz.underlying174 Tryz.sizeOf5 (tm rfl) (tm rfl) (by omega) (by omega)) ?_))))
        refine .e0 (qF Tryz.sizeOf5 (tm rfl) (zI 48) (Heap.objs_set_same _ _ _) (by (have := (akX (ts := ts) hks (show j ≤ n by omega)).2; omega))) ?_
        try first | rw [Heap.set_set] | rw [Heap.set_under (by assumption)]
        refine .ng (.region (.mv rfl rfl (.p rfl (zW (tm rfl) zD (by omega)) (.as rfl rfl (.nil ?_)))))
        refine Block.go ?_
        refine Next.go ?_
        rw [row_nine hks (by omega) hj]
        refine Round.mk (J := rcut_J neg ds e n b6 b27 c27 ts H) ⟨j - 1, by omega, fun q h1 h2 => by rcases Nat.lt_or_ge q j with h | h; rw [show q = j - 1 by omega]; exact h57; exact h9 q h h2, rfl, rfl, rfl⟩ (zA rfl (zA rfl (zA rfl (zA rfl (yE rfl (by congr 1; omega) zK))))) (Heap.le.refl _) (by omega)
       ·try simp only [decide_eq_true_eq, decide_eq_false_iff_not, Bool.not_eq_true', Bool.not_eq_false', Int.not_lt, Int.not_le, ne_eq, Decidable.not_not] at hc102
        simp only [Bool.and_eq_false_iff, decide_eq_false_iff_not] at hc102
        have hne : 0 < j → (ds.take n).getD (j - 1) 0 ≠ 57 := fun hp h => hc102.elim (fun q => q (by omega)) (fun q => q (by rw [auE (ts := ts) hks hp hj, ajZ, h]; rfl))
        have htr := anJ (l := ds.take n) (c := 57) (by omega) (fun q h1 h2 => h9 q h1 (by omega)) hne
        refine .exit ?_
        refine Next.ex ?_
        refine Next.ex ?_
        refine Block.hit ?_
        refine Next.go ?_
        refine .sr (.mv rfl rfl (.p rfl (zZ (tm rfl) zD) (.ng ?_)))
        refine AWP.cond (tm rfl) (fun hc109 => ?_) (fun hc109 => ?_)
        ·try simp only [decide_eq_true_eq] at hc109
         have hj0 : j = 0 := by omega
         subst hj0
         refine AWP.frzU (t := 9) rfl hb27 (akX (ts := ts) hks (Nat.zero_le _)).2 hcl hcm27 ?_
         rw [List.take_zero, List.nil_append, Nat.sub_zero, List.take_left' List.length_replicate]
         refine .region (.e rfl (qV Tryz.underlying174 Tryz.sizeOf5 Tryz.zeroValue5 rfl (zI 49) (.inl rfl) ⟨rfl, rfl⟩) (.mv rfl rfl ?_))
         refine .s rfl (ajB (xs := [49]) (ys := List.replicate n 48) Tryz.underlying174 Tryz.underlying174 Tryz.sizeOf5 Tryz.typeInfo5 Tryz.zeroValue5 (by decide) (tm rfl) (tm rfl) (by show _ * 1 ≤ _; simp only [List.length_replicate, List.length_cons, List.length_nil]; omega) (by rw [List.length_replicate]; exact hn)) ?_
         rintro _ _ ⟨b112, c112, rfl, hb112, hcl112, hcm112, hH⟩
         obtain rfl := hH.symm
         refine .as rfl rfl (.ng ?_)
         refine Meets.mk (M := fun env H2 => ∃ (b c : Nat) (zs ts : List Nat), zs = (if upB (ds.drop n) = true then aoL (ds.take n) else ds.take n).map UInt8.toNat ∧ zs.length ≤ c ∧ c ≤ maxLen ∧ (H.set b6 (.box 48 [.bool false, .str [], .int .i64 0])).objs b = none ∧ env = [(3, .iptr [.bool neg, .str ds, .int .i64 e]), (6, .ptr (some ⟨b6, 0, none⟩)), (8, .int .i64 (e + (ds.length : Int) - (n : Int))), (9, .mslice (some ⟨b, 0, none⟩) zs.length c)] ∧ H2 = (H.set b6 (.box 48 [.bool false, .str [], .int .i64 0])).set b (.box 5 (U .u8 (zs ++ ts)))) ⟨b112, c112, [49] ++ List.replicate n 48, _, by rw [if_pos (by assumption), inc_all htr, hkn], hcl112, hcm112, hb112, rfl, rfl⟩ (zA rfl (zA rfl (zA rfl (zA rfl zK)))) (Heap.le.refl _)
        ·try simp only [decide_eq_false_iff_not, Int.not_lt] at hc109
         have hgr := auE (ts := ts) hks (show 1 ≤ j by omega) hj
         have hbd := hkd.at (show j - 1 < (ds.take n).length by omega)
         rw [← ajZ, ← hgr] at hbd
         refine .region (.mv rfl rfl (.mv rfl rfl (.p rfl (yM (j - 1) Tryz.underlying174 Tryz.sizeOf5 (tm rfl) (tm rfl) (by omega) (by omega)) ?_)))
         refine .e rfl (qG Tryz.isAgg5 (tm rfl) (Heap.objs_set_same _ _ _) (by (have := (akX (ts := ts) hks (show j ≤ n by omega)).2; omega))) ?_
         refine .p rfl (aoD (tm rfl) (zI 1) (by omega)) (.p rfl (yM (j - 1) Tryz.underlying174 Tryz.sizeOf5 (tm rfl) (tm rfl) (by omega) (by omega)) ?_)
         refine .e0 (qF Tryz.sizeOf5 (tm rfl) (tm rfl) (Heap.objs_set_same _ _ _) (by (have := (akX (ts := ts) hks (show j ≤ n by omega)).2; omega))) ?_
         try first | rw [Heap.set_set] | rw [Heap.set_under (by assumption)]
         refine .ng ?_
         refine Meets.mk (M := fun env H2 => ∃ (b c : Nat) (zs ts : List Nat), zs = (if upB (ds.drop n) = true then aoL (ds.take n) else ds.take n).map UInt8.toNat ∧ zs.length ≤ c ∧ c ≤ maxLen ∧ (H.set b6 (.box 48 [.bool false, .str [], .int .i64 0])).objs b = none ∧ env = [(3, .iptr [.bool neg, .str ds, .int .i64 e]), (6, .ptr (some ⟨b6, 0, none⟩)), (8, .int .i64 (e + (ds.length : Int) - (n : Int))), (9, .mslice (some ⟨b, 0, none⟩) zs.length c)] ∧ H2 = (H.set b6 (.box 48 [.bool false, .str [], .int .i64 0])).set b (.box 5 (U .u8 (zs ++ ts)))) ⟨b27, c27, ((ds.take n).map UInt8.toNat).take (j - 1) ++ [(((ds.take n).map UInt8.toNat).take j ++ List.replicate (n - j) 48 ++ ts).getD (j - 1) 0 + 1] ++ List.replicate (n - j) 48, ts, by rw [if_pos (by assumption), inc_at hkd (by omega) (by omega) htr, hkn, hgr], by rw [List.length_append, List.length_append, List.length_take, List.length_replicate, List.length_cons, List.length_nil]; omega, hcm27, hb27, rfl, by rw [bdE hks (by omega) hj]⟩ (zA rfl (zA rfl (zA rfl (yE rfl (by rw [List.length_append, List.length_append, List.length_take, List.length_replicate, List.length_cons, List.length_nil]; congr 1; omega) zK)))) (Heap.le.refl _)
     ·try simp only [decide_eq_true_eq, decide_eq_false_iff_not, Bool.not_eq_true', Bool.not_eq_false', Int.not_lt, Int.not_le, ne_eq, Decidable.not_not] at hc91
      refine .skip ?_
      refine Next.go ?_
      refine Meets.mk (M := fun env H2 => ∃ (b c : Nat) (zs ts : List Nat), zs = (if upB (ds.drop n) = true then aoL (ds.take n) else ds.take n).map UInt8.toNat ∧ zs.length ≤ c ∧ c ≤ maxLen ∧ (H.set b6 (.box 48 [.bool false, .str [], .int .i64 0])).objs b = none ∧ env = [(3, .iptr [.bool neg, .str ds, .int .i64 e]), (6, .ptr (some ⟨b6, 0, none⟩)), (8, .int .i64 (e + (ds.length : Int) - (n : Int))), (9, .mslice (some ⟨b, 0, none⟩) zs.length c)] ∧ H2 = (H.set b6 (.box 48 [.bool false, .str [], .int .i64 0])).set b (.box 5 (U .u8 (zs ++ ts)))) ⟨b27, c27, ((ds.take n).map UInt8.toNat), ts, by rw [if_neg (by (rw [hc91]; decide))], by omega, hcm27, hb27, rfl, rfl⟩ (zA rfl (zA rfl (zA rfl (yE rfl (by rw [hks]) zK)))) (Heap.le.refl _)
   ·rintro _ _ ⟨b, c, zs, ts2, hzs, hzc, hcm, hbz, rfl, rfl⟩
    have hne6 := Heap.fresh_ne hbz
    refine .sr (.p rfl (zG Tryz.underlying48 rfl Tryz.sizeOf4 (tm rfl)) (.p rfl (zF Tryz.isAgg4 (tm rfl)) (.mv rfl rfl ?_)))
    refine .e rfl (bcN (l := (if upB (ds.drop n) = true then aoL (ds.take n) else ds.take n)) Tryz.underlying174 Tryz.underlying9 Tryz.underlying5 (tm rfl) (Heap.objs_set_same _ _ _) (by rw [hzs, List.length_map]) (by rw [List.drop_zero, U_take, List.take_left, hzs, U_bytes]) (Nat.le_trans hzc hcm)) ?_
    refine .mv rfl rfl ?_
    refine .cl rfl Tryz.call41 (evs3 rfl rfl rfl) (agY neg (if upB (ds.drop n) = true then aoL (ds.take n) else ds.take n) _ (by split; exact amD hkd; exact hkd) (by split <;> omega) (by constructor <;> omega) _) ?_
    refine .p rfl (zC (tm rfl) rfl) (.p rfl (zC (tm rfl) rfl) (.e0 (zH Tryz.sizeOf48 (tm rfl) (tm rfl) rfl rfl (.inr ⟨_, rfl⟩) ((Heap.objs_set_ne _ _ (by assumption)).trans (Heap.objs_set_same _ _ _)) (Nat.le_of_ble_eq_true rfl)) ?_))
    try first | rw [Heap.set_set] | rw [Heap.set_under (by assumption)]
    refine .as rfl rfl (.ng ?_)
    refine AWP.dropb (avO hbz _) ?_
    refine AWP.frz (t := 6) rfl hb6 ?_
    refine .ret ?_
    refine Ret.go (.cons (.cellI _ _ _ _ rfl Tryz.isAgg48 Tryz.sizeOf48 rfl) (.cons (.tmp _ _ rfl) .nil)) _ (Heap.le.refl _) ?_
    refine ⟨?_, rfl⟩
    rfl

set_option maxRecDepth 100000 in
theorem azK (neg : Bool) (ds : List UInt8) (e : Int) (n : Nat) (hr : qE ds e = true) (hn : 0 < n) (hn2 : n ≤ 100000) (H : Heap) : ACall Tryz.prog 49 [dA neg ds e, .int .i64 (n : Int), .int .i64 1] H (fun y H' => y = dT (sigD neg ds e n) ∧ H' = H) := by
 have hk1 : (!qE ds e) = false := by rw [hr]; rfl
 have hrl := aaL hr
 have hdd := qS hr
 refine ACall.of_body Tryz.func49 rfl Tryz.ntmps49 Tryz.results49 rfl ?_
 refine .sr (.e rfl (yU (tm rfl) (.inr ⟨_, rfl⟩)) (.s rfl (zR Tryz.zeroValue48 (zr48)) ?_))
 rintro _ _ ⟨b6, hb6, rfl, hH⟩
 obtain rfl := hH.symm
 refine .p rfl (zB zD) (.nr (.p rfl (zY Tryz.isAgg48 Tryz.sizeOf48 (tm rfl) (Nat.le_of_ble_eq_true rfl)) (.cl rfl Tryz.call19 (evs1 rfl) (ajK neg ds e (by rw [yB]; omega) _) (.as rfl rfl (.ng (.seq (.sr (.mv rfl rfl ?_))))))))
 refine .p rfl (qO (tm rfl)) (.mv rfl rfl (.gp rfl rfl rfl (by assumption) (zE (tm rfl)) (.gp rfl rfl rfl (by assumption) (zZ (tm rfl) zD) (.p rfl (zM (tm rfl) (by assumption) (tm rfl)) (.mv rfl rfl (.gp rfl rfl rfl (by rfl) (zE (tm rfl)) (.gp rfl rfl rfl (by rfl) (yC (tm rfl) zD) (.p rfl (zM (tm rfl) (by rfl) (tm rfl)) ?_))))))))
 refine .mv rfl rfl (.gp rfl rfl rfl (by rfl) (zE (tm rfl)) (.gp rfl rfl rfl (by rfl) (zZ (tm rfl) zD) (.p rfl (zM (tm rfl) (by rfl) (tm rfl)) (.ng ?_))))
 refine AWP.cond_false (tm rfl) (by exact decide_eq_false (by omega)) ?_
 refine .skip ?_
 refine Next.go ?_
 refine .seq (.sr (.p rfl (zG Tryz.underlying48 rfl Tryz.sizeOf9 (tm rfl)) (.p rfl (zF Tryz.isAgg9 (tm rfl)) (.p rfl (yF Tryz.underlying9 (tm rfl)) (.mv rfl rfl (.p rfl (abJ (tm rfl) (tm rfl)) (.ng ?_)))))))
 refine AWP.cond (tm rfl) (fun hc30 => ?_) (fun hc30 => ?_)
 ·try simp only [decide_eq_true_eq] at hc30
  refine .sr (.p rfl (zY Tryz.isAgg48 Tryz.sizeOf48 (tm rfl) (Nat.le_of_ble_eq_true rfl)) (.e0 (zH Tryz.sizeOf48 (tm rfl) (tm rfl) rfl rfl (.inr ⟨_, rfl⟩) (Heap.objs_set_same _ _ _) (Nat.le_of_ble_eq_true rfl)) ?_))
  try first | rw [Heap.set_set] | rw [Heap.set_under (by assumption)]
  refine .p rfl (zB zD) (.ng ?_)
  refine AWP.frz (t := 6) rfl (hb6) ?_
  refine .ret ?_
  refine Next.rt ?_
  refine Ret.go (.cons (.cellI _ _ _ _ rfl Tryz.isAgg48 Tryz.sizeOf48 rfl) (.cons (.tmp _ _ rfl) .nil)) _ (Heap.le.refl _) ?_
  refine ⟨?_, rfl⟩
  unfold sigD
  rw [if_pos (by omega)]; rfl
 ·try simp only [decide_eq_false_iff_not, Int.not_le] at hc30
  refine .skip ?_
  refine Next.go ?_
  refine .sr (.p rfl (zY Tryz.isAgg48 Tryz.sizeOf48 (tm rfl) (Nat.le_of_ble_eq_true rfl)) (.mv rfl rfl (.mv rfl rfl (.cl rfl Tryz.call84 (evs3 rfl rfl rfl) (auI neg ds e n hdd hn (by omega) (by omega) (by omega) _) (.p rfl (zC (tm rfl) rfl) (.p rfl (zC (tm rfl) rfl) (.e0 (zH Tryz.sizeOf48 (tm rfl) (tm rfl) rfl rfl (.inr ⟨_, rfl⟩) (Heap.objs_set_same _ _ _) (Nat.le_of_ble_eq_true rfl)) ?_)))))))
  try first | rw [Heap.set_set] | rw [Heap.set_under (by assumption)]
  refine .as rfl rfl (.ng ?_)
  refine AWP.frz (t := 6) rfl (hb6) ?_
  refine .ret ?_
  refine Ret.go (.cons (.cellI _ _ _ _ rfl Tryz.isAgg48 Tryz.sizeOf48 rfl) (.cons (.tmp _ _ rfl) .nil)) _ (Heap.le.refl _) ?_
  refine ⟨?_, rfl⟩
  unfold sigD
  rw [if_neg (by omega)]; rfl
end Go.Proofs.YtfkeflcdadlmdaaGreatDoor
