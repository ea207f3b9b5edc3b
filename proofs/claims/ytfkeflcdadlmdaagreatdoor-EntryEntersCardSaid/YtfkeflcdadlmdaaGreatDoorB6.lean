import Derived.Test.YtfkeflcdadlmdaaGreatDoorYd
import Derived.Test.YtfkeflcdadlmdaaGreatDoorSsk
import Derived.Test.YtfkeflcdadlmdaaGreatDoorB5
import Derived.Test.YtfkeflcdadlmdaaGreatDoorU3
import Derived.Test.YtfkeflcdadlmdaaGreatDoorB1
namespace Go.Proofs.YtfkeflcdadlmdaaGreatDoor
open Go Go.RowKit

open Go.Lib
theorem auG {l : Loc} {t s : List UInt8} : (((!decide (t = []) && hasPrefix s l.grp) && decide ((l.grp.length : Int) < (s.length : Int))) && ajQ (s.getD ((l.grp.length : Nat) : Int).toNat 0)) = aeM l t s := by
 unfold aeM
 rw [Int.toNat_natCast, Bool.and_assoc (!decide (t = []) && hasPrefix s l.grp), show decide ((l.grp.length : Int) < (s.length : Int)) = decide (l.grp.length < s.length) from decide_eq_decide.2 (by omega)]
 cases t <;> rfl
theorem ahI {l : Loc} (hg : l.grp ≠ []) : ∀ (f g : Nat) (a t s : List UInt8) (x : Bool), s.length ≤ f → s.length ≤ g → abH l f a t s x = abH l g a t s x
 | 0, g, a, t, s, x, h, _ => by
  have : s = [] := List.length_eq_zero_iff.1 (by omega)
  subst this
  rw [aaK (by unfold aeM; simp), aaK (by unfold aeM; simp)]
 | f + 1, 0, a, t, s, x, _, h => by
  have : s = [] := List.length_eq_zero_iff.1 (by omega)
  subst this
  rw [aaK (by unfold aeM; simp), aaK (by unfold aeM; simp)]
 | f + 1, g + 1, a, t, s, x, h1, h2 => by
  have := List.length_pos_iff.2 hg
  have hr := aeF (s.drop l.grp.length)
  rw [List.length_drop] at hr
  rw [abH, abH]
  split
  ·exact ahI hg f g _ _ _ _ (by omega) (by omega)
  ·rfl
theorem ajO {l : Loc} {t s : List UInt8} (h : aeM l t s = true) : hasPrefix s l.grp = true ∧ l.grp.length < s.length := by
 unfold aeM at h
 simp only [Bool.and_eq_true, decide_eq_true_eq] at h
 exact ⟨h.1.2, h.2.1⟩
theorem bhS {l : Loc} (hg : l.grp ≠ []) {a t s : List UInt8} {x : Bool} (h : aeM l t s = true) : abH l s.length a t s x = abH l (aaB (s.drop l.grp.length)).length (a ++ aaW (s.drop l.grp.length)) (t ++ l.grp ++ aaW (s.drop l.grp.length)) (aaB (s.drop l.grp.length)) true := by
 have hp := ajO h
 have := List.length_pos_iff.2 hg
 have hr := aeF (s.drop l.grp.length)
 rw [List.length_drop] at hr
 obtain ⟨f, hf⟩ : ∃ f, s.length = f + 1 := ⟨s.length - 1, by omega⟩
 rw [hf, abH, if_pos h]
 exact ahI hg _ _ _ _ _ _ (by omega) (Nat.le_refl _)
theorem aoN {l : Loc} : ∀ (f : Nat) (a t s : List UInt8) (x : Bool), (abH l f a t s x).2.1.length + (abH l f a t s x).2.2.1.length ≤ t.length + s.length ∧ (a.length ≤ t.length → (abH l f a t s x).1.length ≤ (abH l f a t s x).2.1.length)
 | 0, a, t, s, x => ⟨Nat.le_refl _, fun h => h⟩
 | f + 1, a, t, s, x => by
  rw [abH]
  split
  ·rename_i h
   have hp := ajO h
   have hr := congrArg List.length (aaZ (s.drop l.grp.length))
   rw [List.length_append, List.length_drop] at hr
   have ih := aoN (l := l) f (a ++ aaW (s.drop l.grp.length)) (t ++ l.grp ++ aaW (s.drop l.grp.length)) (aaB (s.drop l.grp.length)) true
   simp only [List.length_append] at ih
   exact ⟨by omega, fun h => ih.2 (by omega)⟩
  ·exact ⟨Nat.le_refl _, fun h => h⟩
theorem wR_len (l : Loc) (s : List UInt8) : (wR l s).2.1.length + (wR l s).2.2.1.length ≤ s.length ∧ (wR l s).1.length ≤ (wR l s).2.1.length := by
 have h := aoN (l := l) s.length (aaW s) (aaW s) (aaB s) false
 have hr := congrArg List.length (aaZ s)
 rw [List.length_append] at hr
 exact ⟨Nat.le_trans h.1 (by omega), h.2 (Nat.le_refl _)⟩
theorem pR_len (l : Loc) (s : List UInt8) : (pR l s).1.length + (pR l s).2.length ≤ s.length := by
 unfold pR
 split
 ·have hr := congrArg List.length (aaZ (s.drop l.dc.length))
  rw [List.length_append, List.length_drop] at hr
  simp only
  omega
 ·simp

def azH (l : Loc) (s0 ds0 : List UInt8) (neg0 : Bool) (e0 : Int) (bits0 : Nat) (kind0 : Int) (x0 : Bool) (b : Nat) (H : Heap) : Nat → Env → Heap → Prop := fun k env H1 => ∃ (a t s : List UInt8) (g : Bool), abH l s.length a t s g = wR l s0 ∧ t.length + s.length ≤ s0.length ∧ a.length ≤ t.length ∧ env = [(0, .ptr (some ⟨b, 0, none⟩)), (3, .str t), (4, .str a)] ∧ H1 = H.set b (Wk l ⟨s, neg0, ds0, e0, ⟨bits0, kind0, 0, g, x0⟩⟩) ∧ k = s.length

set_option maxRecDepth 100000 in
theorem avY (l : Loc) (hk : l.ok) (hs2 : l.second = 2 ∨ l.second = 3) (hg : l.grp ≠ []) (s0 : List UInt8) (neg0 : Bool) (ds0 : List UInt8) (e0 : Int) (bits0 : Nat) (kind0 : Int) (x0 : Bool) (hq : s0.length ≤ 2000) (b : Nat) (H : Heap) (hb : H.objs b = some (Wk l ⟨s0, neg0, ds0, e0, ⟨bits0, kind0, 0, false, x0⟩⟩)) : ACall Tryz.prog 118 [.ptr (some ⟨b, 0, none⟩)] H (fun y H' => y = .str (wR l s0).1 ∧ H' = H.set b (Wk l ⟨(wR l s0).2.2.1, neg0, ds0, e0, ⟨bits0, kind0, if (wR l s0).2.1 ≠ [] ∧ adC l (wR l s0).2.1 = none then -1 else 0, (wR l s0).2.2.2, x0⟩⟩)) := by
 obtain ⟨hk1, hk2, hk3, hk4, hk5⟩ := id hk
 have hgl := List.length_pos_iff.2 hg
 have hml := zP
 refine ACall.of_body Tryz.func118 rfl Tryz.ntmps118 Tryz.results118 rfl ?_
 iterate 8 refine AX ?_
 refine .e rfl (zH Tryz.call119 (evs1 rfl) (rowW l _ _ _ _ _ hq b _ hb)) ?_
 iterate 11 refine AX ?_
 refine AWP.loopW (azH l s0 ds0 neg0 e0 bits0 kind0 x0 b H) ((aaB s0).length) ⟨aaW s0, aaW s0, aaB s0, false, by unfold wR; exact ahI hg _ _ _ _ _ _ (Nat.le_refl _) (aeF s0).1, by have := congrArg List.length (aaZ s0); rw [List.length_append] at this; omega, Nat.le_refl _, rfl, rfl, rfl⟩ sX (Heap.le.refl _) ?_
 rintro _ _ _ ⟨a, t, s, g, hw, hl1, hl2, rfl, rfl, rfl⟩
 have hsl : s.length ≤ 2000 := by omega
 refine AX ?_
 refine AWP.seqTo 52 (.bool (((!decide (t = []) && hasPrefix s l.grp) && decide ((l.grp.length : Int) < (s.length : Int))) && ajQ (s.getD ((l.grp.length : Nat) : Int).toNat 0))) [0, 3, 4] ?_ ?_
 ·-- region 3
  refine AWP.drawI (fun H2 => H2.objs b = some (Wk l ⟨s, neg0, ds0, e0, ⟨bits0, kind0, 0, g, x0⟩⟩)) [(0, true), (1, true), (2, true), (3, true), (4, true), (5, true), (6, true), (7, true), (8, true), (9, true), (10, true), (11, true), (12, true), (13, true), (14, true), (15, true), (16, true), (17, true), (18, true), (19, true), (20, true), (21, true), (22, true), (23, true), (24, true), (25, true), (26, true), (27, true), (28, true), (29, true), (30, true), (31, true), (32, true), (33, true), (34, true), (35, true), (36, true), (37, true), (38, true), (39, true), (40, true), (41, true)] (by exact Heap.objs_set_same _ _ _) rfl (by decide +kernel) ?_
  iterate 3 refine AX ?_
  refine ahX (t := 13) rfl (fun hg13 => ?_) (fun hg13 => ?_)
  ·iterate 2 refine AX ?_
   refine APlanI.gp rfl rfl rfl rfl (by assumption) (zD Tryz.underlying84 rfl Tryz.sizeOf9 (tm rfl)) ?_
   refine APlanI.gf rfl rfl rfl rfl (by assumption) (fun _ hI => zN Tryz.isAgg9 (tm rfl) (hI) rfl) ?_
   iterate 2 refine AX ?_
   refine APlanI.gp rfl rfl rfl rfl (by assumption) (zD Tryz.underlying84 rfl Tryz.sizeOf27 (tm rfl)) ?_
   refine APlanI.gp rfl rfl rfl rfl (by assumption) (zD Tryz.underlying27 rfl Tryz.sizeOf9 (tm rfl)) ?_
   refine APlanI.gf rfl rfl rfl rfl (by assumption) (fun _ hI => zN Tryz.isAgg9 (tm rfl) (hI) rfl) ?_
   refine APlanI.gf rfl rfl rfl rfl (by assumption) (fun _ hI => zH Tryz.call73 (evs2 rfl rfl) (aeL _ _ _)) ?_
   iterate 2 refine AX ?_
   refine ahX (t := 25) rfl (fun hg25 => ?_) (fun hg25 => ?_)
   ·iterate 2 refine AX ?_
    refine APlanI.gp rfl rfl rfl rfl (by assumption) (zD Tryz.underlying84 rfl Tryz.sizeOf9 (tm rfl)) ?_
    refine APlanI.gf rfl rfl rfl rfl (by assumption) (fun _ hI => zN Tryz.isAgg9 (tm rfl) (hI) rfl) ?_
    iterate 3 refine AX ?_
    refine APlanI.gp rfl rfl rfl rfl (by assumption) (zD Tryz.underlying84 rfl Tryz.sizeOf27 (tm rfl)) ?_
    refine APlanI.gp rfl rfl rfl rfl (by assumption) (zD Tryz.underlying27 rfl Tryz.sizeOf9 (tm rfl)) ?_
    refine APlanI.gf rfl rfl rfl rfl (by assumption) (fun _ hI => zN Tryz.isAgg9 (tm rfl) (hI) rfl) ?_
    iterate 4 refine AX ?_
    refine ahX (t := 39) rfl (fun hg39 => ?_) (fun hg39 => ?_)
    ·iterate 2 refine AX ?_
     refine APlanI.gp rfl rfl rfl rfl (by assumption) (zD Tryz.underlying84 rfl Tryz.sizeOf9 (tm rfl)) ?_
     refine APlanI.gf rfl rfl rfl rfl (by assumption) (fun _ hI => zN Tryz.isAgg9 (tm rfl) (hI) rfl) ?_
     iterate 2 refine AX ?_
     refine APlanI.gp rfl rfl rfl rfl (by assumption) (zD Tryz.underlying84 rfl Tryz.sizeOf27 (tm rfl)) ?_
     refine APlanI.gp rfl rfl rfl rfl (by assumption) (zD Tryz.underlying27 rfl Tryz.sizeOf9 (tm rfl)) ?_
     refine APlanI.gf rfl rfl rfl rfl (by assumption) (fun _ hI => zN Tryz.isAgg9 (tm rfl) (hI) rfl) ?_
     refine AX ?_
     refine APlanI.gp rfl rfl rfl rfl (by assumption) (yH Tryz.underlying9 (tm rfl) (tm rfl) (by have := of_decide_eq_true hg39; omega) (by have := of_decide_eq_true hg39; omega)) ?_
     refine APlanI.gf rfl rfl rfl rfl (by assumption) (fun _ hI => zH Tryz.call163 (evs1 rfl) (akK _ _)) ?_
     iterate 2 refine AX ?_
     exact ⟨rfl, zZ rfl (by (rw [show (!decide (t = [])) = _ from hg13, show hasPrefix s l.grp = _ from hg25, show decide ((l.grp.length : Int) < (s.length : Int)) = _ from hg39]; rfl)) sX, rfl⟩
    ·iterate 14 refine AX ?_
     exact ⟨rfl, zZ rfl (by (rw [show (!decide (t = [])) = _ from hg13, show hasPrefix s l.grp = _ from hg25, show decide ((l.grp.length : Int) < (s.length : Int)) = _ from hg39]; rfl)) sX, rfl⟩
   ·iterate 28 refine AX ?_
    exact ⟨rfl, zZ rfl (by (rw [show (!decide (t = [])) = _ from hg13, show hasPrefix s l.grp = _ from hg25]; rfl)) sX, rfl⟩
  ·iterate 40 refine AX ?_
   exact ⟨rfl, zZ rfl (by (rw [show (!decide (t = [])) = _ from hg13]; rfl)) sX, rfl⟩
 ·refine AWP.sub [(52, _), (0, _), (3, _), (4, _)] sX ?_
  refine AWP.cx rfl (fun hc52 => ?_) (fun hc52 => ?_)
  ·have hm : aeM l t s = true := by rw [← auG]; exact hc52
   have hmp := ajO hm
   iterate 8 refine AX ?_
   refine .p rfl (zD Tryz.underlying84 rfl Tryz.sizeOf27 (tm rfl)) (.p rfl (zD Tryz.underlying27 rfl Tryz.sizeOf9 (tm rfl)) (.e rfl (zN Tryz.isAgg9 (tm rfl) (Heap.objs_set_same _ _ _) rfl) (.e rfl (zH Tryz.call38 (evs2 rfl rfl) (takeW l _ _ _ _ _ hsl b _ (Heap.objs_set_same _ _ _) _)) ?_)))
   rw [Heap.set_set]
   simp only [aaX hmp.1]
   iterate 5 refine AX ?_
   refine .e rfl (zH Tryz.call119 (evs1 rfl) (rowW l (s.drop l.grp.length) _ _ _ _ (by rw [List.length_drop]; omega) b _ (Heap.objs_set_same _ _ _))) ?_
   rw [Heap.set_set]
   iterate 8 refine AX ?_
   refine .p rfl (zD Tryz.underlying84 rfl Tryz.sizeOf27 (tm rfl)) (.p rfl (zD Tryz.underlying27 rfl Tryz.sizeOf9 (tm rfl)) (.e rfl (zN Tryz.isAgg9 (tm rfl) (Heap.objs_set_same _ _ _) rfl) (.p rfl (yE (tm rfl) (tm rfl) (by rw [zP]; omega)) ?_)))
   refine AX ?_
   refine .p rfl (yE (tm rfl) (tm rfl) (by have := aeF (s.drop l.grp.length); rw [zP, List.length_append]; rw [List.length_drop] at this; omega)) ?_
   iterate 7 refine AX ?_
   refine .p rfl (yE (tm rfl) (tm rfl) (by have := aeF (s.drop l.grp.length); rw [zP]; rw [List.length_drop] at this; omega)) ?_
   iterate 6 refine AX ?_
   refine .p rfl (zD Tryz.underlying84 rfl Tryz.sizeOf38 (tm rfl)) (.p rfl (zD Tryz.underlying38 rfl Tryz.sizeOf4 (tm rfl)) (.e0 (zB Tryz.sizeOf4 (tm rfl) yN rfl rfl (.inl rfl) (Heap.objs_set_same _ _ _) (Nat.le_of_ble_eq_true rfl)) ?_))
   try first | rw [Heap.set_set] | rw [Heap.set_under (by assumption)]
   iterate 3 refine AX ?_
   refine Round.mk (J := azH l s0 ds0 neg0 e0 bits0 kind0 x0 b H) ⟨a ++ aaW (s.drop l.grp.length), t ++ l.grp ++ aaW (s.drop l.grp.length), aaB (s.drop l.grp.length), true, by rw [← bhS hg hm]; exact hw, by have := congrArg List.length (aaZ (s.drop l.grp.length)); simp only [List.length_append, List.length_drop] at this ⊢; omega, by simp only [List.length_append]; omega, rfl, rfl, rfl⟩ sX (Heap.le.refl _) (by have := aeF (s.drop l.grp.length); rw [List.length_drop] at this; omega)
  ·have hm : aeM l t s = false := by rw [← auG]; exact hc52
   have hww : wR l s0 = (a, t, s, g) := by rw [← hw]; exact aaK hm _ _ _
   iterate 9 refine AX ?_
   refine .p rfl (zD Tryz.underlying84 rfl Tryz.sizeOf27 (tm rfl)) (.e rfl (yJ Tryz.isAgg27 Tryz.sizeOf27 (tm rfl) (Heap.objs_set_same _ _ _) (Nat.le_of_ble_eq_true rfl)) ?_)
   refine AX ?_
   refine .cl rfl Tryz.call164 (evs2 rfl rfl) (atO l hk hs2 hg t (by omega) _) ?_
   iterate 8 refine AX ?_
   refine AWP.seqTo 92 (.bool (!decide (t = []) && !(adC l t).isSome)) [0, 4] ?_ ?_
   ·-- region 10
    iterate 4 refine AX ?_
    refine zI (t := 89) rfl (fun hg89 => ?_) (fun hg89 => ?_)
    ·iterate 4 refine AX ?_
     exact ⟨rfl, zZ rfl (by (rw [show (!decide (t = [])) = _ from hg89]; rfl)) sX, rfl⟩
    ·iterate 4 refine AX ?_
     exact ⟨rfl, zZ rfl (by (rw [show (!decide (t = [])) = _ from hg89]; rfl)) sX, rfl⟩
   ·refine AWP.sub [(92, _), (0, _), (4, _)] sX ?_
    refine AWP.cx rfl (fun hc92 => ?_) (fun hc92 => ?_)
    ·have hbad : t ≠ [] ∧ adC l t = none := by simpa using hc92
     iterate 3 refine AX ?_
     refine .p rfl (zD Tryz.underlying84 rfl Tryz.sizeOf38 (tm rfl)) (.p rfl (zD Tryz.underlying38 rfl Tryz.sizeOf3 (tm rfl)) (.e0 (zB Tryz.sizeOf3 (tm rfl) zF rfl rfl (.inl rfl) (Heap.objs_set_same _ _ _) (Nat.le_of_ble_eq_true rfl)) ?_))
     try first | rw [Heap.set_set] | rw [Heap.set_under (by assumption)]
     iterate 9 refine AX ?_
     refine Ret.go (.cons (.tmp _ _ rfl) .nil) _ (Heap.le.refl _) ?_
     refine ⟨by rw [hww]; rfl, ?_⟩
     rw [hww]
     simp only [if_pos hbad]
     rfl
    ·have hbad : ¬ (t ≠ [] ∧ adC l t = none) := by intro q; rw [q.2, decide_eq_false q.1] at hc92; cases hc92
     iterate 9 refine AX ?_
     refine Ret.go (.cons (.tmp _ _ rfl) .nil) _ (Heap.le.refl _) ?_
     refine ⟨by rw [hww]; rfl, ?_⟩
     rw [hww]
     simp only [if_neg hbad]
     done

def rexp_J (l : Loc) (b : Nat) (D : List UInt8) (neg : Bool) (H : Heap) : Nat → Env → Heap → Prop := fun k env H1 => ∃ i : Nat, i ≤ D.length ∧ env = [(0, .ptr (some ⟨b, 0, none⟩)), (7, .bool neg), (8, .str D), (9, .int .i64 (num (D.take i) : Int)), (10, .int .i64 (i : Int))] ∧ H = H1 ∧ k = D.length - i

set_option maxRecDepth 100000 in
theorem aqJ (l : Loc) (hk : l.ok) (hs2 : l.second = 2 ∨ l.second = 3) (hg : l.grp ≠ []) (s0 : List UInt8) (neg0 : Bool) (ds0 : List UInt8) (e0 : Int) (bits0 : Nat) (kind0 : Int) (hq : s0.length ≤ 2000) (b : Nat) (H : Heap) (hb : H.objs b = some (Wk l ⟨s0, neg0, ds0, e0, ⟨bits0, kind0, 0, false, false⟩⟩)) : ACall Tryz.prog 74 [.ptr (some ⟨b, 0, none⟩)] H (fun y H' => ∃ q' : WkN, y = .bool (ajD l s0).isSome ∧ H' = H.set b (Wk l q') ∧ (∀ d e k gr x z, ajD l s0 = some (d, e, k, gr, x, z) → q' = ⟨z, neg0, d, e, ⟨bits0, kind0, (k : Int), gr, x⟩⟩) ∧ q'.s.length ≤ s0.length ∧ q'.neg = neg0) := by
 obtain ⟨hk1, hk2, hk3, hk4, hk5⟩ := id hk
 have hgl := List.length_pos_iff.2 hg
 have hml := zP
 have hwc := avY l hk hs2 hg s0 neg0 ds0 e0 bits0 kind0 false hq b H hb
 have hwl := wR_len l s0
 rcases hw : wR l s0 with ⟨A, T, Y, G⟩
 rw [hw] at hwc hwl
 simp only at hwc hwl
 refine ACall.of_body Tryz.func74 rfl Tryz.ntmps74 Tryz.results74 rfl ?_
 iterate 8 refine AX ?_
 refine .e rfl (zH Tryz.call118 (evs1 rfl) (hwc)) ?_
 iterate 8 refine AX ?_
 refine .p rfl (zD Tryz.underlying84 rfl Tryz.sizeOf38 (tm rfl)) (.p rfl (zD Tryz.underlying38 rfl Tryz.sizeOf3 (tm rfl)) (.e rfl (zN Tryz.isAgg3 (tm rfl) (Heap.objs_set_same _ _ _) rfl) ?_))
 iterate 3 refine AX ?_
 refine AWP.cx rfl (fun hc18 => ?_) (fun hc18 => ?_)
 ·have hbad : T ≠ [] ∧ adC l T = none := Decidable.by_contra fun q => by rw [if_neg q] at hc18; exact absurd hc18 (by decide)
  iterate 7 refine AX ?_
  refine Ret.go (.cons (.tmp _ _ rfl) .nil) _ (Heap.le.refl _) ?_
  have hn : ajD l s0 = none := by
   unfold ajD; rw [hw]; exact if_pos hbad
  refine ⟨_, by rw [hn]; rfl, rfl, (fun _ _ _ _ _ _ hr => by rw [hn] at hr; cases hr), ?_, rfl⟩
  show Y.length ≤ s0.length
  omega
 ·have hbad : ¬ (T ≠ [] ∧ adC l T = none) := fun q => by rw [if_pos q] at hc18; exact absurd hc18 (by decide)
  rw [if_neg hbad]
  iterate 12 refine AX ?_
  refine .p rfl (zD Tryz.underlying84 rfl Tryz.sizeOf27 (tm rfl)) (.p rfl (zD Tryz.underlying27 rfl Tryz.sizeOf9 (tm rfl)) (.e rfl (zN Tryz.isAgg9 (tm rfl) (Heap.objs_set_same _ _ _) rfl) (.e rfl (zH Tryz.call38 (evs2 rfl rfl) (takeW l Y _ _ _ _ (by omega) b _ (Heap.objs_set_same _ _ _) _)) ?_)))
  rw [Heap.set_set]
  iterate 3 refine AX ?_
  refine AWP.meet (fun env H2 => ∃ R S, pR l Y = (R, S) ∧ env = [(0, .ptr (some ⟨b, 0, none⟩)), (3, .str A), (4, .str R)] ∧ H2 = H.set b (Wk l ⟨S, neg0, ds0, e0, ⟨bits0, kind0, 0, G, false⟩⟩)) ?_ ?_
  ·iterate 5 refine AX ?_
   refine AWP.cx rfl (fun hc26 => ?_) (fun hc26 => ?_)
   ·have hpr : pR l Y = (aaW (Y.drop l.dc.length), aaB (Y.drop l.dc.length)) := by unfold pR; rw [if_pos hc26]
    rw [aaX hc26]
    iterate 2 refine AX ?_
    refine .e rfl (zH Tryz.call119 (evs1 rfl) (rowW l (Y.drop l.dc.length) _ _ _ _ (by rw [List.length_drop]; omega) b _ (Heap.objs_set_same _ _ _))) ?_
    rw [Heap.set_set]
    iterate 3 refine AX ?_
    refine Meets.mk (M := fun env H2 => ∃ R S, pR l Y = (R, S) ∧ env = [(0, .ptr (some ⟨b, 0, none⟩)), (3, .str A), (4, .str R)] ∧ H2 = H.set b (Wk l ⟨S, neg0, ds0, e0, ⟨bits0, kind0, 0, G, false⟩⟩)) ⟨_, _, hpr, rfl, rfl⟩ sX (Heap.le.refl _)
   ·have hpr : pR l Y = ([], Y) := by unfold pR; rw [if_neg (by rw [hc26]; decide)]
    rw [abW hc26]
    iterate 2 refine AX ?_
    refine Meets.mk (M := fun env H2 => ∃ R S, pR l Y = (R, S) ∧ env = [(0, .ptr (some ⟨b, 0, none⟩)), (3, .str A), (4, .str R)] ∧ H2 = H.set b (Wk l ⟨S, neg0, ds0, e0, ⟨bits0, kind0, 0, G, false⟩⟩)) ⟨_, _, hpr, rfl, rfl⟩ sX (Heap.le.refl _)
  ·rintro _ _ ⟨R, S, hpr, rfl, rfl⟩
   have hpl := pR_len l Y
   rw [hpr] at hpl
   simp only at hpl
   refine AX ?_
   refine AWP.seqTo 34 (.bool (decide (A = []) && decide (R = []))) [0, 3, 4] ?_ ?_
   ·-- region 8
    iterate 4 refine AX ?_
    refine zI (t := 31) rfl (fun hg31 => ?_) (fun hg31 => ?_)
    ·iterate 4 refine AX ?_
     exact ⟨rfl, zZ rfl (by (rw [show decide (A = []) = _ from hg31]; rfl)) sX, rfl⟩
    ·iterate 4 refine AX ?_
     exact ⟨rfl, zZ rfl (by (rw [show decide (A = []) = _ from hg31]; rfl)) sX, rfl⟩
   ·refine AWP.sub [(34, _), (0, _), (3, _), (4, _)] sX ?_
    refine AWP.cx rfl (fun hc34 => ?_) (fun hc34 => ?_)
    ·have hemp : A = [] ∧ R = [] := by simpa using hc34
     iterate 7 refine AX ?_
     refine Ret.go (.cons (.tmp _ _ rfl) .nil) _ (Heap.le.refl _) ?_
     have hn : ajD l s0 = none := by
      unfold ajD; rw [hw]; simp only; rw [if_neg hbad, hpr]; exact if_pos hemp
     refine ⟨_, by rw [hn]; rfl, rfl, (fun _ _ _ _ _ _ hr => by rw [hn] at hr; cases hr), ?_, rfl⟩
     show S.length ≤ s0.length
     omega
    ·have hemp : ¬ (A = [] ∧ R = []) := by intro q; rw [decide_eq_true q.1, decide_eq_true q.2] at hc34; cases hc34
     iterate 7 refine AX ?_
     refine .p rfl (yE (tm rfl) (tm rfl) (by rw [zP]; omega)) ?_
     refine AX ?_
     refine .p rfl (zD Tryz.underlying84 rfl Tryz.sizeOf9 (tm rfl)) (.e0 (zB Tryz.sizeOf9 (tm rfl) (tm rfl) rfl rfl (.inl rfl) (Heap.objs_set_same _ _ _) (Nat.le_of_ble_eq_true rfl)) ?_)
     try first | rw [Heap.set_set] | rw [Heap.set_under (by assumption)]
     iterate 8 refine AX ?_
     refine .p rfl (zD Tryz.underlying84 rfl Tryz.sizeOf38 (tm rfl)) (.p rfl (zD Tryz.underlying38 rfl Tryz.sizeOf3 (tm rfl)) (.e0 (zB Tryz.sizeOf3 (tm rfl) (tm rfl) rfl rfl (.inl rfl) (Heap.objs_set_same _ _ _) (Nat.le_of_ble_eq_true rfl)) ?_))
     try first | rw [Heap.set_set] | rw [Heap.set_under (by assumption)]
     iterate 7 refine AX ?_
     refine .p rfl (aaE (tm rfl) (by omega)) ?_
     refine AX ?_
     refine .p rfl (zD Tryz.underlying84 rfl Tryz.sizeOf3 (tm rfl)) (.e0 (zB Tryz.sizeOf3 (tm rfl) (tm rfl) rfl rfl (.inl rfl) (Heap.objs_set_same _ _ _) (Nat.le_of_ble_eq_true rfl)) ?_)
     try first | rw [Heap.set_set] | rw [Heap.set_under (by assumption)]
     iterate 3 refine AX ?_
     refine AWP.seqTo 73 (.bool (decide (S = []) || (decide (((S.getD 0 0).toNat : Int) ≠ 101) && decide (((S.getD 0 0).toNat : Int) ≠ 69)))) [0] ?_ ?_
     ·-- region 13
      iterate 3 refine AX ?_
      refine .p rfl (zD Tryz.underlying84 rfl Tryz.sizeOf9 (tm rfl)) (.e rfl (zN Tryz.isAgg9 (tm rfl) (Heap.objs_set_same _ _ _) rfl) ?_)
      iterate 2 refine AX ?_
      refine zI (t := 58) rfl (fun hg58 => ?_) (fun hg58 => ?_)
      ·iterate 16 refine AX ?_
       exact ⟨rfl, zZ rfl (by (rw [show decide (S = []) = _ from hg58]; rfl)) (yC rfl yX), rfl⟩
      ·iterate 2 refine AX ?_
       refine .gp rfl rfl rfl (by assumption) (zD Tryz.underlying84 rfl Tryz.sizeOf9 (tm rfl)) (.gs rfl rfl rfl (by assumption) (zN Tryz.isAgg9 (tm rfl) (Heap.objs_set_same _ _ _) rfl) ?_)
       rintro _ _ ⟨rfl, hH⟩
       obtain rfl := hH.symm
       refine .gp rfl rfl rfl (by assumption) (yH Tryz.underlying9 (tm rfl) zF (by have := List.length_pos_iff.2 (of_decide_eq_false hg58); omega) (by have := List.length_pos_iff.2 (of_decide_eq_false hg58); omega)) ?_
       iterate 2 refine AX ?_
       refine zI (t := 65) rfl (fun hg65 => ?_) (fun hg65 => ?_)
       ·iterate 2 refine AX ?_
        refine .gp rfl rfl rfl (by assumption) (zD Tryz.underlying84 rfl Tryz.sizeOf9 (tm rfl)) (.gs rfl rfl rfl (by assumption) (zN Tryz.isAgg9 (tm rfl) (Heap.objs_set_same _ _ _) rfl) ?_)
        rintro _ _ ⟨rfl, hH⟩
        obtain rfl := hH.symm
        refine .gp rfl rfl rfl (by assumption) (yH Tryz.underlying9 (tm rfl) zF (by have := List.length_pos_iff.2 (of_decide_eq_false hg58); omega) (by have := List.length_pos_iff.2 (of_decide_eq_false hg58); omega)) ?_
        iterate 4 refine AX ?_
        exact ⟨rfl, zZ rfl (by (rw [show decide (S = []) = _ from hg58, show decide (((S.getD 0 0).toNat : Int) ≠ 101) = _ from hg65]; rfl)) (yC rfl yX), rfl⟩
       ·iterate 9 refine AX ?_
        exact ⟨rfl, zZ rfl (by (rw [show decide (S = []) = _ from hg58, show decide (((S.getD 0 0).toNat : Int) ≠ 101) = _ from hg65]; rfl)) (yC rfl yX), rfl⟩
     ·refine AWP.sub [(73, _), (0, _)] sX ?_
      refine AWP.cx rfl (fun hc73 => ?_) (fun hc73 => ?_)
      ·have htl : ajH l S = some (0, false, S) := by
        unfold ajH
        rw [if_pos]
        simp only [Bool.or_eq_true, Bool.and_eq_true, decide_eq_true_eq] at hc73
        rcases hc73 with h | h
        ·exact .inl h
        ·exact .inr ⟨fun q => h.1 (by rw [q]; rfl), fun q => h.2 (by rw [q]; rfl)⟩
       iterate 7 refine AX ?_
       refine Ret.go (.cons (.tmp _ _ rfl) .nil) _ (Heap.le.refl _) ?_
       have hn : ajD l s0 = some (A ++ R, 0 - (R.length : Int), R.length, G, false, S) := by
        unfold ajD; rw [hw]; simp only; rw [if_neg hbad, hpr]; simp only; rw [if_neg hemp, htl]
       refine ⟨⟨S, neg0, A ++ R, -(R.length : Int), ⟨bits0, kind0, (R.length : Int), G, false⟩⟩, by rw [hn]; rfl, rfl, fun _ _ _ _ _ _ hr => ?_, (by show S.length ≤ s0.length; omega), rfl⟩
       rw [hn] at hr
       simp only [Option.some.injEq, Prod.mk.injEq] at hr
       obtain ⟨rfl, rfl, rfl, rfl, rfl, rfl⟩ := hr
       rw [Int.zero_sub]
      ·have hc73 : ¬ (S = [] ∨ (S.getD 0 0 ≠ 101 ∧ S.getD 0 0 ≠ 69)) := by
        simp only [Bool.or_eq_false_iff, Bool.and_eq_false_iff, decide_eq_false_iff_not, Decidable.not_not] at hc73
        rintro (q | q)
        ·exact hc73.1 q
        ·exact hc73.2.elim (fun h => q.1 (aaI (d := 101) (by show _ = 101; omega))) (fun h => q.2 (aaI (d := 69) (by show _ = 69; omega)))
       iterate 3 refine AX ?_
       have hsl1 := aiG l (S.drop 1)
       have hS1 : 1 ≤ S.length := List.length_pos_iff.2 (fun q => hc73 (.inl q))
       have hS2 : (S.drop 1).length = S.length - 1 := List.length_drop
       iterate 4 refine AX ?_
       refine .p rfl (zD Tryz.underlying84 rfl Tryz.sizeOf9 (tm rfl)) (.e rfl (zN Tryz.isAgg9 (tm rfl) (Heap.objs_set_same _ _ _) rfl) (.p rfl (yY Tryz.underlying9 (tm rfl) zF (by (try dsimp only); omega) (by (try dsimp only); omega)) ?_))
       refine AX ?_
       refine .p rfl (zD Tryz.underlying84 rfl Tryz.sizeOf9 (tm rfl)) (.e0 (zB Tryz.sizeOf9 (tm rfl) (tm rfl) rfl rfl (.inl rfl) (Heap.objs_set_same _ _ _) (Nat.le_of_ble_eq_true rfl)) ?_)
       try first | rw [Heap.set_set] | rw [Heap.set_under (by assumption)]
       iterate 6 refine AX ?_
       refine .p rfl (zD Tryz.underlying84 rfl Tryz.sizeOf38 (tm rfl)) (.p rfl (zD Tryz.underlying38 rfl Tryz.sizeOf4 (tm rfl)) (.e0 (zB Tryz.sizeOf4 (tm rfl) yN rfl rfl (.inl rfl) (Heap.objs_set_same _ _ _) (Nat.le_of_ble_eq_true rfl)) ?_))
       try first | rw [Heap.set_set] | rw [Heap.set_under (by assumption)]
       iterate 5 refine AX ?_
       refine .s rfl (zH Tryz.call39 (evs1 rfl) (rsignW l (S.drop 1) neg0 (A ++ R) (-(R.length : Int)) ⟨bits0, kind0, (R.length : Int), G, true⟩ (by rw [List.length_drop]; omega) b _ (Heap.objs_set_same _ _ _))) ?_
       rintro _ _ ⟨⟨g1, rfl⟩, hH⟩
       obtain rfl := hH.symm
       rw [Heap.set_set]
       iterate 10 refine AX ?_
       refine .e rfl (zH Tryz.call119 (evs1 rfl) (rowW l (yA l (S.drop 1)).1 neg0 (A ++ R) (-(R.length : Int)) ⟨bits0, kind0, (R.length : Int), G, true⟩ (by omega) b _ (Heap.objs_set_same _ _ _))) ?_
       rw [Heap.set_set]
       iterate 4 refine AX ?_
       refine AWP.seqTo 99 (.bool (decide ((aaW (yA l (S.drop 1)).1) = []) || decide ((9 : Int) < ((aaW (yA l (S.drop 1)).1).length : Int)))) [0, 7, 8] ?_ ?_
       ·-- region 19
        iterate 4 refine AX ?_
        refine zI (t := 95) rfl (fun hg95 => ?_) (fun hg95 => ?_)
        ·iterate 5 refine AX ?_
         exact ⟨rfl, zZ rfl (by (rw [show decide ((aaW (yA l (S.drop 1)).1) = []) = _ from hg95]; rfl)) sX, rfl⟩
        ·iterate 5 refine AX ?_
         exact ⟨rfl, zZ rfl (by (rw [show decide ((aaW (yA l (S.drop 1)).1) = []) = _ from hg95]; rfl)) sX, rfl⟩
       ·refine AWP.sub [(99, _), (0, _), (7, _), (8, _)] sX ?_
        refine AWP.cx rfl (fun hc99 => ?_) (fun hc99 => ?_)
        ·have htl : ajH l S = none := by
          unfold ajH
          rw [if_neg hc73, if_pos]
          simp only [Bool.or_eq_true, decide_eq_true_eq] at hc99
          rcases hc99 with h | h
          ·exact .inl h
          ·exact .inr (by omega)
         iterate 7 refine AX ?_
         refine Ret.go (.cons (.tmp _ _ rfl) .nil) _ (Heap.le.refl _) ?_
         have hn : ajD l s0 = none := by
          unfold ajD; rw [hw]; simp only; rw [if_neg hbad, hpr]; simp only; rw [if_neg hemp, htl]
         refine ⟨⟨aaB (yA l (S.drop 1)).1, neg0, A ++ R, -(R.length : Int), ⟨bits0, kind0, (R.length : Int), G, true⟩⟩, by rw [hn]; rfl, rfl, (fun _ _ _ _ _ _ hr => by rw [hn] at hr; cases hr), ?_, rfl⟩
         have hrl := aeF (yA l (S.drop 1)).1
         show (aaB (yA l (S.drop 1)).1).length ≤ s0.length
         omega
        ·simp only [Bool.or_eq_false_iff, decide_eq_false_iff_not] at hc99
         have htl : ajH l S = some (if (yA l (S.drop 1)).2 = true then -(num (aaW (yA l (S.drop 1)).1) : Int) else (num (aaW (yA l (S.drop 1)).1) : Int), true, aaB (yA l (S.drop 1)).1) := by
          unfold ajH
          rw [if_neg hc73, if_neg (by rintro (q | q); exact hc99.1 q; omega)]
         have hrl := aeF (yA l (S.drop 1)).1
         iterate 14 refine AX ?_
         refine AWP.loopW (rexp_J l b (aaW (yA l (S.drop 1)).1) (yA l (S.drop 1)).2 (H.set b (Wk l ⟨aaB (yA l (S.drop 1)).1, neg0, A ++ R, -(R.length : Int), ⟨bits0, kind0, (R.length : Int), G, true⟩⟩))) ((aaW (yA l (S.drop 1)).1).length) ⟨0, by omega, rfl, rfl, rfl⟩ sX (Heap.le.refl _) ?_
         rintro _ _ _ ⟨i, hi, rfl, rfl, rfl⟩
         have hdg := aeP (yA l (S.drop 1)).1
         have hn9 := num_9 (hdg.take i) (by rw [List.length_take]; omega)
         iterate 9 refine AX ?_
         refine AWP.cx rfl (fun hc103 => ?_) (fun hc103 => ?_)
         ·iterate 4 refine AX ?_
          have hdi := hdg.at (show i < (aaW (yA l (S.drop 1)).1).length by omega)
          have hdi2 : 48 ≤ ((aaW (yA l (S.drop 1)).1).getD ((i : Nat) : Int).toNat 0).toNat ∧ ((aaW (yA l (S.drop 1)).1).getD ((i : Nat) : Int).toNat 0).toNat ≤ 57 := hdi
          iterate 2 refine AX ?_
          refine .p rfl (agP zF (tm rfl) (by omega)) ?_
          iterate 2 refine AX ?_
          refine .p rfl (yH Tryz.underlying9 (tm rfl) (tm rfl) (by omega) (by omega)) (.p rfl (apE (tm rfl) (zG 48) (by omega) (by omega)) (.p rfl (zT Tryz.underlying5 Tryz.underlying3 (tm rfl) (wrapNI64 (by omega))) (.p rfl (zK (tm rfl) (tm rfl) (by omega)) ?_)))
          iterate 6 refine AX ?_
          refine .p rfl (zK (tm rfl) zF (by omega)) ?_
          iterate 3 refine AX ?_
          have hst := baD (ds := (aaW (yA l (S.drop 1)).1)) (i := i) (by omega)
          have hdi := hdg.at (show i < (aaW (yA l (S.drop 1)).1).length by omega)
          refine Round.mk (J := rexp_J l b (aaW (yA l (S.drop 1)).1) (yA l (S.drop 1)).2 (H.set b (Wk l ⟨aaB (yA l (S.drop 1)).1, neg0, A ++ R, -(R.length : Int), ⟨bits0, kind0, (R.length : Int), G, true⟩⟩))) ⟨i + 1, by omega, rfl, rfl, rfl⟩ (yC rfl (yC rfl (yC rfl (zW rfl (by rw [hst]; congr 1; rw [show ((i : Int)).toNat = i from rfl]; omega) (zW rfl (by congr 1) yX))))) (Heap.le.refl _) (by omega)
         ·iterate 11 refine AX ?_
          refine AWP.cx rfl (fun hc114 => ?_) (fun hc114 => ?_)
          ·iterate 2 refine AX ?_
           refine .p rfl (aaE (tm rfl) (by omega)) ?_
           iterate 8 refine AX ?_
           refine .p rfl (zD Tryz.underlying84 rfl Tryz.sizeOf3 (tm rfl)) (.e rfl (zN Tryz.isAgg3 (tm rfl) (Heap.objs_set_same _ _ _) rfl) ?_)
           refine AX ?_
           refine .p rfl (zK (tm rfl) (tm rfl) (by (try dsimp only); omega)) ?_
           refine AX ?_
           refine .p rfl (zD Tryz.underlying84 rfl Tryz.sizeOf3 (tm rfl)) (.e0 (zB Tryz.sizeOf3 (tm rfl) (tm rfl) rfl rfl (.inl rfl) (Heap.objs_set_same _ _ _) (Nat.le_of_ble_eq_true rfl)) ?_)
           try first | rw [Heap.set_set] | rw [Heap.set_under (by assumption)]
           iterate 8 refine AX ?_
           refine Ret.go (.cons (.tmp _ _ rfl) .nil) _ (Heap.le.refl _) ?_
           have hi2 : i = (aaW (yA l (S.drop 1)).1).length := by omega
           rw [hi2, List.take_length]
           have hn : ajD l s0 = some (A ++ R, (if (yA l (S.drop 1)).2 = true then -(num (aaW (yA l (S.drop 1)).1) : Int) else (num (aaW (yA l (S.drop 1)).1) : Int)) - (R.length : Int), R.length, G, true, aaB (yA l (S.drop 1)).1) := by
            unfold ajD; rw [hw]; simp only; rw [if_neg hbad, hpr]; simp only; rw [if_neg hemp, htl]
           refine ⟨⟨aaB (yA l (S.drop 1)).1, neg0, A ++ R, -(R.length : Int) + -(num (aaW (yA l (S.drop 1)).1) : Int), ⟨bits0, kind0, (R.length : Int), G, true⟩⟩, by rw [hn]; rfl, rfl, fun _ _ _ _ _ _ hr => ?_, (by show (aaB (yA l (S.drop 1)).1).length ≤ s0.length; omega), rfl⟩
           rw [hn] at hr
           simp only [Option.some.injEq, Prod.mk.injEq] at hr
           obtain ⟨rfl, rfl, rfl, rfl, rfl, rfl⟩ := hr
           rw [if_pos (by assumption)]
           congr 1; omega
          ·iterate 7 refine AX ?_
           refine .p rfl (zD Tryz.underlying84 rfl Tryz.sizeOf3 (tm rfl)) (.e rfl (zN Tryz.isAgg3 (tm rfl) (Heap.objs_set_same _ _ _) rfl) ?_)
           refine AX ?_
           refine .p rfl (zK (tm rfl) (tm rfl) (by (try dsimp only); omega)) ?_
           refine AX ?_
           refine .p rfl (zD Tryz.underlying84 rfl Tryz.sizeOf3 (tm rfl)) (.e0 (zB Tryz.sizeOf3 (tm rfl) (tm rfl) rfl rfl (.inl rfl) (Heap.objs_set_same _ _ _) (Nat.le_of_ble_eq_true rfl)) ?_)
           try first | rw [Heap.set_set] | rw [Heap.set_under (by assumption)]
           iterate 8 refine AX ?_
           refine Ret.go (.cons (.tmp _ _ rfl) .nil) _ (Heap.le.refl _) ?_
           have hi2 : i = (aaW (yA l (S.drop 1)).1).length := by omega
           rw [hi2, List.take_length]
           have hn : ajD l s0 = some (A ++ R, (if (yA l (S.drop 1)).2 = true then -(num (aaW (yA l (S.drop 1)).1) : Int) else (num (aaW (yA l (S.drop 1)).1) : Int)) - (R.length : Int), R.length, G, true, aaB (yA l (S.drop 1)).1) := by
            unfold ajD; rw [hw]; simp only; rw [if_neg hbad, hpr]; simp only; rw [if_neg hemp, htl]
           refine ⟨⟨aaB (yA l (S.drop 1)).1, neg0, A ++ R, -(R.length : Int) + (num (aaW (yA l (S.drop 1)).1) : Int), ⟨bits0, kind0, (R.length : Int), G, true⟩⟩, by rw [hn]; rfl, rfl, fun _ _ _ _ _ _ hr => ?_, (by show (aaB (yA l (S.drop 1)).1).length ≤ s0.length; omega), rfl⟩
           rw [hn] at hr
           simp only [Option.some.injEq, Prod.mk.injEq] at hr
           obtain ⟨rfl, rfl, rfl, rfl, rfl, rfl⟩ := hr
           rw [if_neg (by rw [hc114]; decide)]
           congr 1; omega
theorem zr38 : ∀ g, RelCells g [.int .u64 0, .int .i64 0, .int .i64 0, .bool false, .bool false] (Value.cells (Go.Value.agg #[Go.Value.int Go.IntKind.u64 0, Go.Value.int Go.IntKind.i64 0, Go.Value.int Go.IntKind.i64 0, Go.Value.bool false, Go.Value.bool false])) := fun g => RelL.cells (.cons (.int _ _) (.cons (.int _ _) (.cons (.int _ _) (.cons (.bool _) (.cons (.bool _) .nil)))))
theorem pl38 (fs : Array Field) (hfs : Tryz.prog.underlying 38 = some (.struct fs)) : ∀ (i : Nat) f p, fs[i]? = some f → [(0, 1), (1, 1), (2, 1), (3, 1), (4, 1)][i]? = some p → ∀ w, (sizeOf f.type).run Tryz.prog w = .ok p.2 w := by
 have e := (Option.some.inj (hfs.symm.trans Tryz.underlying38))
 cases e
 intro i f p hf hp w
 match i with
 | 0 => cases hf; cases hp; exact Tryz.sizeOf30 w
 | 1 => cases hf; cases hp; exact Tryz.sizeOf3 w
 | 2 => cases hf; cases hp; exact Tryz.sizeOf3 w
 | 3 => cases hf; cases hp; exact Tryz.sizeOf4 w
 | 4 => cases hf; cases hp; exact Tryz.sizeOf4 w
 | i + 5 => simp at hp
theorem zr84 : ∀ g, RelCells g [.str [], .str [], .str [], .str [], .str [], .str [], .str [], .bool false, .bool false, .int .i64 0, .str [], .bool false, .str [], .int .i64 0, .int .u64 0, .int .i64 0, .int .i64 0, .bool false, .bool false] (Value.cells (Go.Value.agg #[Go.Value.string { data := #[] }, Go.Value.string { data := #[] }, Go.Value.string { data := #[] }, Go.Value.string { data := #[] }, Go.Value.string { data := #[] }, Go.Value.string { data := #[] }, Go.Value.string { data := #[] }, Go.Value.bool false, Go.Value.bool false, Go.Value.int Go.IntKind.i64 0, Go.Value.string { data := #[] }, Go.Value.bool false, Go.Value.string { data := #[] }, Go.Value.int Go.IntKind.i64 0, Go.Value.int Go.IntKind.u64 0, Go.Value.int Go.IntKind.i64 0, Go.Value.int Go.IntKind.i64 0, Go.Value.bool false, Go.Value.bool false])) := fun g => RelL.cells (.cons ((.str [] (Nat.zero_le _))) (.cons ((.str [] (Nat.zero_le _))) (.cons ((.str [] (Nat.zero_le _))) (.cons ((.str [] (Nat.zero_le _))) (.cons ((.str [] (Nat.zero_le _))) (.cons ((.str [] (Nat.zero_le _))) (.cons ((.str [] (Nat.zero_le _))) (.cons (.bool _) (.cons (.bool _) (.cons (.int _ _) (.cons ((.str [] (Nat.zero_le _))) (.cons (.bool _) (.cons ((.str [] (Nat.zero_le _))) (.cons (.int _ _) (.cons (.int _ _) (.cons (.int _ _) (.cons (.int _ _) (.cons (.bool _) (.cons (.bool _) .nil)))))))))))))))))))
theorem pl84 (fs : Array Field) (hfs : Tryz.prog.underlying 84 = some (.struct fs)) : ∀ (i : Nat) f p, fs[i]? = some f → [(0, 10), (10, 1), (11, 1), (12, 1), (13, 1), (14, 5)][i]? = some p → ∀ w, (sizeOf f.type).run Tryz.prog w = .ok p.2 w := by
 have e := (Option.some.inj (hfs.symm.trans Tryz.underlying84))
 cases e
 intro i f p hf hp w
 match i with
 | 0 => cases hf; cases hp; exact Tryz.sizeOf27 w
 | 1 => cases hf; cases hp; exact Tryz.sizeOf9 w
 | 2 => cases hf; cases hp; exact Tryz.sizeOf4 w
 | 3 => cases hf; cases hp; exact Tryz.sizeOf9 w
 | 4 => cases hf; cases hp; exact Tryz.sizeOf3 w
 | 5 => cases hf; cases hp; exact Tryz.sizeOf38 w
 | i + 6 => simp at hp

theorem bhO {l : Loc} (hl : l.fine) {t d : List UInt8} {e : Int} {k : Nat} {gr x : Bool} (h : avK l t d e k gr x) : d.length ≤ t.length := by
 obtain ⟨W, R, E, p, dd, n, rfl, hp, hw, hR, hne, hE, rfl, rfl, rfl⟩ := h
 have h1 : dd.length ≤ W.length := by
  rcases abV hl hw with ⟨_, rfl, _⟩ | ⟨d0, s0, d1, rfl, _, _, hc, rfl, _, _⟩
  ·exact Nat.zero_le _
  ·have := (hc.len hl).1
   simp only [List.length_append]; omega
 cases p with
 | true => simp only [if_true, List.length_append]; omega
 | false => rw [hp rfl]; simp only [List.length_append, List.length_nil]; omega
theorem arN {l : Loc} (hl : l.entOk) {T d Z : List UInt8} {e : Int} {k : Nat} {gr x : Bool} (h : ajD l T = some (d, e, k, gr, x, Z)) : Digs d ∧ d.length ≤ T.length ∧ e ≤ 2000000000 ∧ -1000000000 - (T.length : Int) ≤ e ∧ Z.length ≤ T.length := by
 obtain ⟨t, rfl, hO⟩ := arK hl.fine hl.second h
 have h1 := auE (baE hl.fine hl.grpOk hO)
 have h2 := bhO hl.fine hO
 rw [List.length_append]
 exact ⟨h1.1, by omega, h1.2.2.1, by omega, by omega⟩
theorem anE (s : List UInt8) (n : Nat) : (zS (s.drop n)).length ≤ s.length := Nat.le_trans (adM _) (by rw [List.length_drop]; omega)
theorem tpre_len (s p : List UInt8) : (trimPrefix s p).length ≤ s.length := acK _ _

set_option maxRecDepth 100000 in
theorem aqK (l : Loc) (hl : l.entOk) (hk : l.ok) (hg : l.grp ≠ []) (s0 : List UInt8) (neg0 : Bool) (ds0 : List UInt8) (e0 : Int) (bits0 : Nat) (hq : s0.length ≤ 1000) (b : Nat) (H : Heap) (hb : H.objs b = some (Wk l ⟨s0, neg0, ds0, e0, ⟨bits0, 0, 0, false, false⟩⟩)) : ACall Tryz.prog 40 [.ptr (some ⟨b, 0, none⟩)] H (fun y H' => ∃ q' : WkN, y = .bool (afS l s0).isSome ∧ H' = H.set b (Wk l q') ∧ (∀ kd d e k gr x z, afS l s0 = some ((kd, d, e, k, gr, x), z) → q' = ⟨z, neg0, d, e, ⟨bits0, kd, (k : Int), gr, x⟩⟩) ∧ q'.s.length ≤ s0.length ∧ q'.neg = neg0) := by
 have hlb := adM s0
 refine ACall.of_body Tryz.func40 rfl Tryz.ntmps40 Tryz.results40 rfl ?_
 iterate 10 refine AX ?_
 refine .p rfl (zD Tryz.underlying84 rfl Tryz.sizeOf27 (tm rfl)) (.p rfl (zD Tryz.underlying27 rfl Tryz.sizeOf9 (tm rfl)) (.e rfl (zN Tryz.isAgg9 (tm rfl) (by assumption) rfl) (.e rfl (zH Tryz.call38 (evs2 rfl rfl) (takeW l _ _ _ _ _ (Nat.le_trans hq (by decide)) b _ hb _)) ?_)))
 iterate 3 refine AX ?_
 refine AWP.meet (fun env H2 => ∃ (s1 : List UInt8) (kd : Int) (F : Bool), hasPrefix s0 l.cur = F ∧ (F = true → s1 = zS (s0.drop l.cur.length) ∧ kd = 2) ∧ (F = false → s1 = s0 ∧ kd = 0) ∧ s1.length ≤ s0.length ∧ env = [(0, .ptr (some ⟨b, 0, none⟩)), (3, .bool F)] ∧ H2 = H.set b (Wk l ⟨s1, neg0, ds0, e0, ⟨bits0, kd, 0, false, false⟩⟩)) ?_ ?_
 ·iterate 5 refine AX ?_
  refine AWP.cx rfl (fun hc15 => ?_) (fun hc15 => ?_)
  ·rw [aaX hc15]
   iterate 4 refine AX ?_
   refine .p rfl (zD Tryz.underlying84 rfl Tryz.sizeOf38 (tm rfl)) (.p rfl (zD Tryz.underlying38 rfl Tryz.sizeOf3 (tm rfl)) (.e0 (zB Tryz.sizeOf3 (tm rfl) zF rfl rfl (.inl rfl) (Heap.objs_set_same _ _ _) (Nat.le_of_ble_eq_true rfl)) ?_))
   try first | rw [Heap.set_set] | rw [Heap.set_under (by assumption)]
   iterate 4 refine AX ?_
   refine .s rfl (zH Tryz.call37 (evs1 rfl) (blanksW l (s0.drop l.cur.length) neg0 ds0 e0 ⟨bits0, 2, 0, false, false⟩ (by rw [List.length_drop]; omega) b _ (Heap.objs_set_same _ _ _))) ?_
   rintro _ _ rfl
   rw [Heap.set_set]
   iterate 2 refine AX ?_
   refine Meets.mk (M := fun env H2 => ∃ (s1 : List UInt8) (kd : Int) (F : Bool), hasPrefix s0 l.cur = F ∧ (F = true → s1 = zS (s0.drop l.cur.length) ∧ kd = 2) ∧ (F = false → s1 = s0 ∧ kd = 0) ∧ s1.length ≤ s0.length ∧ env = [(0, .ptr (some ⟨b, 0, none⟩)), (3, .bool F)] ∧ H2 = H.set b (Wk l ⟨s1, neg0, ds0, e0, ⟨bits0, kd, 0, false, false⟩⟩)) ⟨_, 2, true, hc15, fun _ => ⟨rfl, rfl⟩, (fun q => by cases q), anE _ _, rfl, rfl⟩ (yC rfl (zW rfl (by rw [hc15]) yX)) (Heap.le.refl _)
  ·rw [abW hc15]
   iterate 2 refine AX ?_
   refine Meets.mk (M := fun env H2 => ∃ (s1 : List UInt8) (kd : Int) (F : Bool), hasPrefix s0 l.cur = F ∧ (F = true → s1 = zS (s0.drop l.cur.length) ∧ kd = 2) ∧ (F = false → s1 = s0 ∧ kd = 0) ∧ s1.length ≤ s0.length ∧ env = [(0, .ptr (some ⟨b, 0, none⟩)), (3, .bool F)] ∧ H2 = H.set b (Wk l ⟨s1, neg0, ds0, e0, ⟨bits0, kd, 0, false, false⟩⟩)) ⟨s0, 0, false, hc15, (fun q => by cases q), fun _ => ⟨rfl, rfl⟩, Nat.le_refl _, rfl, rfl⟩ (yC rfl (zW rfl (by rw [hc15]) yX)) (Heap.le.refl _)
 ·rintro _ _ ⟨s1, kd, F, hf, h2, h0, hsl, rfl, rfl⟩
  iterate 3 refine AX ?_
  refine .s rfl (zH Tryz.call74 (evs1 rfl) (aqJ l hk hl.second hg s1 neg0 ds0 e0 bits0 kd (by omega) b _ (Heap.objs_set_same _ _ _))) ?_
  rintro _ _ ⟨q1, rfl, hH, hq1, hql, hqn⟩
  obtain rfl := hH.symm
  rw [Heap.set_set]
  iterate 10 refine AX ?_
  refine AWP.cx rfl (fun hc25 => ?_) (fun hc25 => ?_)
  ·have hnn : ajD l s1 = none := by simpa using hc25
   have hn : afS l s0 = none := by
    cases F with
    | true => obtain ⟨rfl, rfl⟩ := h2 rfl; unfold afS; rw [if_pos hf, hnn]
    | false => obtain ⟨rfl, rfl⟩ := h0 rfl; unfold afS; rw [if_neg (by rw [hf]; decide), hnn]
   iterate 7 refine AX ?_
   refine Ret.go (.cons (.tmp _ _ rfl) .nil) _ (Heap.le.refl _) ?_
   refine ⟨_, by rw [hn]; rfl, rfl, (fun _ _ _ _ _ _ _ hr => by rw [hn] at hr; cases hr), ?_, hqn⟩
   show q1.s.length ≤ s0.length
   omega
  ·obtain ⟨⟨d, e, k, gr, x, z⟩, hnn⟩ := Option.isSome_iff_exists.1 (show (ajD l s1).isSome = true by simpa using hc25)
   have hq2 := hq1 _ _ _ _ _ _ hnn
   subst hq2
   obtain ⟨hdd, hdl, he1, he2, hzl⟩ := arN hl hnn
   clear hql hqn hq1
   iterate 8 refine AX ?_
   refine AWP.cx rfl (fun hc26 => ?_) (fun hc26 => ?_)
   ·have hF2 : F = true := hc26
    obtain ⟨rfl, rfl⟩ := h2 hF2
    iterate 7 refine AX ?_
    refine Ret.go (.cons (.tmp _ _ rfl) .nil) _ (Heap.le.refl _) ?_
    have hn : afS l s0 = some ((2, d, e, k, gr, x), z) := by
     unfold afS; rw [if_pos (hf.trans hF2), hnn]
    refine ⟨⟨z, neg0, d, e, ⟨bits0, 2, (k : Int), gr, x⟩⟩, by rw [hn]; rfl, rfl, fun _ _ _ _ _ _ _ hr => ?_, ?_, rfl⟩
    ·rw [hn] at hr; simp only [Option.some.injEq, Prod.mk.injEq] at hr; obtain ⟨⟨rfl, rfl, rfl, rfl, rfl, rfl⟩, rfl⟩ := hr; rfl
    ·show z.length ≤ s0.length; omega
   ·have hF2 : F = false := hc26
    iterate 3 refine AX ?_
    obtain ⟨h1, rfl⟩ := h0 hF2
    have h1 := h1.symm
    subst h1
    have hF := hf.trans hF2
    have hlz := adM z
    iterate 3 refine AX ?_
    refine .p rfl (zD Tryz.underlying84 rfl Tryz.sizeOf9 (tm rfl)) (.e rfl (zN Tryz.isAgg9 (tm rfl) (Heap.objs_set_same _ _ _) rfl) ?_)
    iterate 6 refine AX ?_
    refine .s rfl (zH Tryz.call37 (evs1 rfl) (blanksW l z _ _ _ _ (by omega) b _ (Heap.objs_set_same _ _ _))) ?_
    rintro _ _ rfl
    rw [Heap.set_set]
    iterate 7 refine AX ?_
    refine .p rfl (zD Tryz.underlying84 rfl Tryz.sizeOf27 (tm rfl)) (.p rfl (zD Tryz.underlying27 rfl Tryz.sizeOf9 (tm rfl)) (.e rfl (zN Tryz.isAgg9 (tm rfl) (Heap.objs_set_same _ _ _) rfl) (.e rfl (zH Tryz.call38 (evs2 rfl rfl) (takeW l (zS z) _ _ _ _ (by omega) b _ (Heap.objs_set_same _ _ _) _)) ?_)))
    rw [Heap.set_set]
    iterate 9 refine AX ?_
    refine AWP.cx rfl (fun hc40 => ?_) (fun hc40 => ?_)
    ·rw [aaX hc40]
     iterate 4 refine AX ?_
     refine .p rfl (zD Tryz.underlying84 rfl Tryz.sizeOf38 (tm rfl)) (.p rfl (zD Tryz.underlying38 rfl Tryz.sizeOf3 (tm rfl)) (.e0 (zB Tryz.sizeOf3 (tm rfl) zF rfl rfl (.inl rfl) (Heap.objs_set_same _ _ _) (Nat.le_of_ble_eq_true rfl)) ?_))
     try first | rw [Heap.set_set] | rw [Heap.set_under (by assumption)]
     iterate 7 refine AX ?_
     refine .p rfl (zD Tryz.underlying84 rfl Tryz.sizeOf3 (tm rfl)) (.e rfl (zN Tryz.isAgg3 (tm rfl) (Heap.objs_set_same _ _ _) rfl) (.p rfl (zO (tm rfl) zF (by (try dsimp only); omega)) ?_))
     refine AX ?_
     refine .p rfl (zD Tryz.underlying84 rfl Tryz.sizeOf3 (tm rfl)) (.e0 (zB Tryz.sizeOf3 (tm rfl) (tm rfl) rfl rfl (.inl rfl) (Heap.objs_set_same _ _ _) (Nat.le_of_ble_eq_true rfl)) ?_)
     try first | rw [Heap.set_set] | rw [Heap.set_under (by assumption)]
     iterate 9 refine AX ?_
     refine Ret.go (.cons (.tmp _ _ rfl) .nil) _ (Heap.le.refl _) ?_
     have hn : afS l s0 = some ((1, d, e - 2, k, gr, x), (zS z).drop l.pct.length) := by
      unfold afS; rw [if_neg (by rw [hF]; decide), hnn]; simp only
      rw [if_pos hc40]
     refine ⟨⟨(zS z).drop l.pct.length, neg0, d, e - 2, ⟨bits0, 1, (k : Int), gr, x⟩⟩, by rw [hn]; rfl, rfl, fun _ _ _ _ _ _ _ hr => ?_, ?_, rfl⟩
     ·rw [hn] at hr; simp only [Option.some.injEq, Prod.mk.injEq] at hr; obtain ⟨⟨rfl, rfl, rfl, rfl, rfl, rfl⟩, rfl⟩ := hr; rfl
     ·show ((zS z).drop l.pct.length).length ≤ s0.length; rw [List.length_drop]; omega
    ·rw [abW hc40]
     iterate 7 refine AX ?_
     refine .p rfl (zD Tryz.underlying84 rfl Tryz.sizeOf27 (tm rfl)) (.p rfl (zD Tryz.underlying27 rfl Tryz.sizeOf9 (tm rfl)) (.e rfl (zN Tryz.isAgg9 (tm rfl) (Heap.objs_set_same _ _ _) rfl) (.e rfl (zH Tryz.call38 (evs2 rfl rfl) (takeW l (zS z) _ _ _ _ (by omega) b _ (Heap.objs_set_same _ _ _) _)) ?_)))
     rw [Heap.set_set]
     iterate 9 refine AX ?_
     refine AWP.cx rfl (fun hc60 => ?_) (fun hc60 => ?_)
     ·rw [aaX hc60]
      iterate 4 refine AX ?_
      refine .p rfl (zD Tryz.underlying84 rfl Tryz.sizeOf38 (tm rfl)) (.p rfl (zD Tryz.underlying38 rfl Tryz.sizeOf3 (tm rfl)) (.e0 (zB Tryz.sizeOf3 (tm rfl) zF rfl rfl (.inl rfl) (Heap.objs_set_same _ _ _) (Nat.le_of_ble_eq_true rfl)) ?_))
      try first | rw [Heap.set_set] | rw [Heap.set_under (by assumption)]
      iterate 9 refine AX ?_
      refine Ret.go (.cons (.tmp _ _ rfl) .nil) _ (Heap.le.refl _) ?_
      have hn : afS l s0 = some ((2, d, e, k, gr, x), (zS z).drop l.cur.length) := by
       unfold afS; rw [if_neg (by rw [hF]; decide), hnn]; simp only
       rw [if_neg (by rw [hc40]; decide), if_pos hc60]
      refine ⟨⟨(zS z).drop l.cur.length, neg0, d, e, ⟨bits0, 2, (k : Int), gr, x⟩⟩, by rw [hn]; rfl, rfl, fun _ _ _ _ _ _ _ hr => ?_, ?_, rfl⟩
      ·rw [hn] at hr; simp only [Option.some.injEq, Prod.mk.injEq] at hr; obtain ⟨⟨rfl, rfl, rfl, rfl, rfl, rfl⟩, rfl⟩ := hr; rfl
      ·show ((zS z).drop l.cur.length).length ≤ s0.length; rw [List.length_drop]; omega
     ·rw [abW hc60]
      iterate 7 refine AX ?_
      refine .p rfl (zD Tryz.underlying84 rfl Tryz.sizeOf9 (tm rfl)) (.e0 (zB Tryz.sizeOf9 (tm rfl) (tm rfl) rfl rfl (.inl rfl) (Heap.objs_set_same _ _ _) (Nat.le_of_ble_eq_true rfl)) ?_)
      try first | rw [Heap.set_set] | rw [Heap.set_under (by assumption)]
      iterate 8 refine AX ?_
      refine Ret.go (.cons (.tmp _ _ rfl) .nil) _ (Heap.le.refl _) ?_
      have hn : afS l s0 = some ((0, d, e, k, gr, x), z) := by
       unfold afS; rw [if_neg (by rw [hF]; decide), hnn]; simp only
       rw [if_neg (by rw [hc40]; decide), if_neg (by rw [hc60]; decide)]
      refine ⟨⟨z, neg0, d, e, ⟨bits0, 0, (k : Int), gr, x⟩⟩, by rw [hn]; rfl, rfl, fun _ _ _ _ _ _ _ hr => ?_, ?_, rfl⟩
      ·rw [hn] at hr; simp only [Option.some.injEq, Prod.mk.injEq] at hr; obtain ⟨⟨rfl, rfl, rfl, rfl, rfl, rfl⟩, rfl⟩ := hr; rfl
      ·show z.length ≤ s0.length; omega

def aeJ (l : Loc) (s : List UInt8) : EntN × Int := if 1000 < s.length then (EntN.zero, 4) else axS (avW l s)
theorem amtR_rng {l : Loc} (hl : l.entOk) {T d z : List UInt8} {kd e : Int} {k : Nat} {gr x : Bool} (h : afS l T = some ((kd, d, e, k, gr, x), z)) : Digs d ∧ d.length ≤ T.length ∧ e ≤ 2000000000 ∧ -1000000002 - (T.length : Int) ≤ e := by
 unfold afS at h
 split at h
 ·cases hn : ajD l (zS (T.drop l.cur.length)) with
  | none => rw [hn] at h; cases h
  | some q =>
   obtain ⟨d2, e2, k2, g2, x2, z2⟩ := q
   rw [hn] at h
   simp only [Option.some.injEq, Prod.mk.injEq] at h
   obtain ⟨⟨rfl, rfl, rfl, rfl, rfl, rfl⟩, rfl⟩ := h
   have h1 := arN hl hn
   have h2 := anE T l.cur.length
   exact ⟨h1.1, by omega, h1.2.2.1, by omega⟩
 ·cases hn : ajD l T with
  | none => rw [hn] at h; cases h
  | some q =>
   obtain ⟨d2, e2, k2, g2, x2, z2⟩ := q
   rw [hn] at h
   have h1 := arN hl hn
   simp only at h
   split at h
   ·simp only [Option.some.injEq, Prod.mk.injEq] at h
    obtain ⟨⟨rfl, rfl, rfl, rfl, rfl, rfl⟩, rfl⟩ := h
    exact ⟨h1.1, h1.2.1, by omega, by omega⟩
   ·split at h <;> (simp only [Option.some.injEq, Prod.mk.injEq] at h; obtain ⟨⟨rfl, rfl, rfl, rfl, rfl, rfl⟩, rfl⟩ := h; exact ⟨h1.1, h1.2.1, by omega, by omega⟩)
theorem bjV {l : Loc} (hl : l.entOk) {s s2 s3 : List UInt8} {neg O ok : Bool} {q1 : WkN} (hs : (zS s2).length ≤ 1000) (hO : hasPrefix (zS s) [40] = O) (hO1 : O = true → s2 = (zS s).drop 1 ∧ neg = true) (hO2 : O = false → yA l (zS s) = (s2, neg))
  (hO3 : O = true → ok = ((afS l (zS s2)).isSome && hasPrefix (zS q1.s) [41]) ∧ s3 = zS (trimPrefix (zS q1.s) [41])) (hO4 : O = false → ok = (afS l (zS s2)).isSome ∧ s3 = zS q1.s)
  (hq1 : ∀ kd d e k gr x z, afS l (zS s2) = some ((kd, d, e, k, gr, x), z) → q1 = ⟨z, neg, d, e, ⟨0, kd, (k : Int), gr, x⟩⟩) :
  ((!ok || decide (s3 ≠ [])) = false → ∃ (z : List UInt8) (kd : Int) (d : List UInt8) (e : Int) (k : Nat) (gr x : Bool), avW l s = some (neg, kd, d, e, k, gr, x) ∧ q1 = ⟨z, neg, d, e, ⟨0, kd, (k : Int), gr, x⟩⟩ ∧ s3 = [] ∧ Digs d ∧ d.length ≤ 1000 ∧ -3000000000 ≤ e ∧ e ≤ 2000000000) ∧ ((!ok || decide (s3 ≠ [])) = true → avW l s = none) := by
 cases ha : afS l (zS s2) with
 | none =>
  have hok : ok = false := by
   rw [ha] at hO3 hO4
   cases O with
   | true => rw [(hO3 rfl).1]; rfl
   | false => rw [(hO4 rfl).1]; rfl
  rw [hok]
  refine ⟨(fun h => by cases h), fun _ => ?_⟩
  unfold avW
  cases O with
  | true => rw [if_pos hO, ← (hO1 rfl).1, ha]
  | false => rw [if_neg (by rw [hO]; decide), hO2 rfl]; simp only; rw [ha]
 | some r =>
  obtain ⟨⟨kd, d, e, k, gr, x⟩, z⟩ := r
  have hq := hq1 _ _ _ _ _ _ _ ha
  have hrg := amtR_rng hl ha
  subst hq
  rw [ha] at hO3 hO4
  simp only [Option.isSome_some, Bool.true_and] at hO3 hO4
  have key : (avW l s = if ok = true ∧ s3 = [] then some (neg, kd, d, e, k, gr, x) else none) := by
   unfold avW
   cases O with
   | true =>
    obtain ⟨h1, h2⟩ := hO3 rfl
    rw [if_pos hO, ← (hO1 rfl).1, ha]
    simp only
    rw [h1, h2, (hO1 rfl).2]
    cases hp : hasPrefix (zS z) [41] with
    | true => rw [aaX hp]; rfl
    | false => rw [if_neg (fun q => by cases q.1), if_neg (fun q => by cases q.1)]
   | false =>
    obtain ⟨h1, h2⟩ := hO4 rfl
    rw [if_neg (by rw [hO]; decide), hO2 rfl]
    simp only
    rw [ha]
    simp only
    rw [h1, h2]
    by_cases hz : zS z = []
    ·rw [if_pos hz, if_pos ⟨rfl, hz⟩]
    ·rw [if_neg hz, if_neg (fun q => hz q.2)]
  rw [key]
  constructor
  ·intro h
   simp only [Bool.or_eq_false_iff, Bool.not_eq_false', decide_eq_false_iff_not, Decidable.not_not] at h
   rw [if_pos h]
   exact ⟨z, kd, d, e, k, gr, x, rfl, rfl, h.2, hrg.1, by omega, by omega, by omega⟩
  ·intro h
   rw [if_neg]
   rintro ⟨q1, q2⟩
   rw [q1, q2] at h
   simp at h
theorem made_z {neg : Bool} {kd : Int} {d : List UInt8} {e : Int} {k : Nat} {gr x : Bool} (h : (mkN neg d e).2 ≠ 0) : axS (some (neg, kd, d, e, k, gr, x)) = (EntN.zero, 2) := if_pos h
theorem made_k {neg : Bool} {kd : Int} {d : List UInt8} {e : Int} {k : Nat} {gr x : Bool} {y : Nat} (hy : y = ahY (mkN neg d e).1.1 (mkN neg d e).1.2.1 (mkN neg d e).1.2.2) (h : ¬ (mkN neg d e).2 ≠ 0) : axS (some (neg, kd, d, e, k, gr, x)) = if qD y = 3 then (EntN.zero, 2) else (⟨y, kd, k, gr, x⟩, 0) := by
 unfold axS
 simp only
 rw [if_neg h, hy]

set_option maxRecDepth 100000 in
theorem atQ (l : Loc) (hl : l.entOk) (hk : l.ok) (hg : l.grp ≠ []) (s : List UInt8) (hs : s.length ≤ 2000) (H : Heap) : ACall Tryz.prog 12 [.str s, rL l] H (fun y H' => y = .tuple [.agg (aeJ l s).1.cs, .int .i64 (aeJ l s).2] ∧ H' = H) := by
 have hlb := adM s
 refine ACall.of_body Tryz.func12 rfl Tryz.ntmps12 Tryz.results12 rfl ?_
 iterate 2 refine AX ?_
 refine .e rfl (yF (tm rfl) (.inr ⟨_, rfl⟩)) (.s rfl (zL Tryz.zeroValue38 (zr38)) ?_)
 rintro _ _ ⟨b4, hb4, rfl, hH⟩
 obtain rfl := hH.symm
 iterate 11 refine AX ?_
 refine AWP.cx rfl (fun hc16 => ?_) (fun hc16 => ?_)
 ·have hen : aeJ l s = (EntN.zero, 4) := by unfold aeJ; rw [if_pos (by omega)]
  iterate 2 refine AX ?_
  refine .p rfl (zU [(0, 1), (1, 1), (2, 1), (3, 1), (4, 1)] Tryz.underlying38 Tryz.zeroValue38 (zr38) rfl (pl38 _ Tryz.underlying38) .nil rfl) (.e0 (zB Tryz.sizeOf38 (tm rfl) (tm rfl) rfl rfl (.inr ⟨_, rfl⟩) (Heap.objs_set_same _ _ _) (Nat.le_of_ble_eq_true rfl)) ?_)
  try first | rw [Heap.set_set] | rw [Heap.set_under (by assumption)]
  iterate 3 refine AX ?_
  refine AWP.frz (t := 4) rfl (hb4) ?_
  iterate 2 refine AX ?_
  refine Ret.go (.cons (.cellI _ _ _ _ rfl Tryz.isAgg38 Tryz.sizeOf38 rfl) (.cons (.tmp _ _ rfl) .nil)) _ (Heap.le.refl _) ?_
  rw [hen]; exact ⟨rfl, rfl⟩
 ·have hs1 : s.length ≤ 1000 := by omega
  have hen : aeJ l s = axS (avW l s) := by unfold aeJ; rw [if_neg (by omega)]
  iterate 6 refine AX ?_
  refine .p rfl (zU [(0, 10), (10, 1), (11, 1), (12, 1), (13, 1), (14, 5)] Tryz.underlying84 Tryz.zeroValue84 (zr84) rfl (pl84 _ Tryz.underlying84) (.cons (tm rfl) (.inr ⟨_, rfl⟩) (.cons (tm rfl) (.inl rfl) .nil)) rfl) ?_
  refine .s rfl (aqO (tm rfl) (.inr ⟨_, rfl⟩)) ?_
  rintro _ _ ⟨b21, hb21, rfl, hH⟩
  obtain rfl := hH.symm
  have hn4_21 := Heap.ne_of (Heap.objs_set_same _ _ _) hb21
  iterate 6 refine AX ?_
  refine .s rfl (zH Tryz.call37 (evs1 rfl) (blanksW l s false [] 0 ⟨0, 0, 0, false, false⟩ hs b21 _ (Heap.objs_set_same _ _ _))) ?_
  rintro _ _ rfl
  rw [Heap.set_set]
  iterate 5 refine AX ?_
  refine .e rfl (zH Tryz.call38 (.cons (tm rfl) (.cons (zR rfl) .nil)) (takeW l (zS s) _ _ _ _ (by omega) b21 _ (Heap.objs_set_same _ _ _) _)) ?_
  rw [Heap.set_set]
  iterate 3 refine AX ?_
  refine AWP.meet (fun env H2 => ∃ (s2 : List UInt8) (neg O : Bool), hasPrefix (zS s) [40] = O ∧ (O = true → s2 = (zS s).drop 1 ∧ neg = true) ∧ (O = false → yA l (zS s) = (s2, neg)) ∧ s2.length ≤ s.length ∧ env = [(4, .ptr (some ⟨b4, 0, none⟩)), (5, .int .i64 0), (6, .ptr (some ⟨b21, 0, none⟩)), (7, .bool O)] ∧ H2 = (H.set b4 (.box 38 (EntN.cs EntN.zero))).set b21 (Wk l ⟨s2, neg, [], 0, ⟨0, 0, 0, false, false⟩⟩)) ?_ ?_
  ·iterate 5 refine AX ?_
   refine AWP.cx rfl (fun hc26 => ?_) (fun hc26 => ?_)
   ·rw [aaX hc26]
    iterate 3 refine AX ?_
    refine .p rfl (zD Tryz.underlying84 rfl Tryz.sizeOf4 (tm rfl)) (.e0 (zB Tryz.sizeOf4 (tm rfl) yN rfl rfl (.inl rfl) (Heap.objs_set_same _ _ _) (Nat.le_of_ble_eq_true rfl)) ?_)
    try first | rw [Heap.set_set] | rw [Heap.set_under (by assumption)]
    iterate 2 refine AX ?_
    refine Meets.mk (M := fun env H2 => ∃ (s2 : List UInt8) (neg O : Bool), hasPrefix (zS s) [40] = O ∧ (O = true → s2 = (zS s).drop 1 ∧ neg = true) ∧ (O = false → yA l (zS s) = (s2, neg)) ∧ s2.length ≤ s.length ∧ env = [(4, .ptr (some ⟨b4, 0, none⟩)), (5, .int .i64 0), (6, .ptr (some ⟨b21, 0, none⟩)), (7, .bool O)] ∧ H2 = (H.set b4 (.box 38 (EntN.cs EntN.zero))).set b21 (Wk l ⟨s2, neg, [], 0, ⟨0, 0, 0, false, false⟩⟩)) ⟨_, true, true, hc26, fun _ => ⟨rfl, rfl⟩, (fun q => by cases q), (by rw [List.length_drop]; omega), rfl, rfl⟩ (yC rfl (yC rfl (yC rfl (zW rfl (by rw [hc26]) yX)))) (Heap.le.refl _)
   ·rw [abW hc26]
    iterate 3 refine AX ?_
    refine .s rfl (zH Tryz.call39 (evs1 rfl) (rsignW l (zS s) false [] 0 ⟨0, 0, 0, false, false⟩ (by omega) b21 _ (Heap.objs_set_same _ _ _))) ?_
    rintro _ _ ⟨⟨g1, rfl⟩, hH⟩
    obtain rfl := hH.symm
    rw [Heap.set_set]
    iterate 11 refine AX ?_
    refine .p rfl (zD Tryz.underlying84 rfl Tryz.sizeOf4 (tm rfl)) (.e0 (zB Tryz.sizeOf4 (tm rfl) (tm rfl) rfl rfl (.inl rfl) (Heap.objs_set_same _ _ _) (Nat.le_of_ble_eq_true rfl)) ?_)
    try first | rw [Heap.set_set] | rw [Heap.set_under (by assumption)]
    iterate 2 refine AX ?_
    refine Meets.mk (M := fun env H2 => ∃ (s2 : List UInt8) (neg O : Bool), hasPrefix (zS s) [40] = O ∧ (O = true → s2 = (zS s).drop 1 ∧ neg = true) ∧ (O = false → yA l (zS s) = (s2, neg)) ∧ s2.length ≤ s.length ∧ env = [(4, .ptr (some ⟨b4, 0, none⟩)), (5, .int .i64 0), (6, .ptr (some ⟨b21, 0, none⟩)), (7, .bool O)] ∧ H2 = (H.set b4 (.box 38 (EntN.cs EntN.zero))).set b21 (Wk l ⟨s2, neg, [], 0, ⟨0, 0, 0, false, false⟩⟩)) ⟨(yA l (zS s)).1, (yA l (zS s)).2, false, hc26, (fun q => by cases q), fun _ => rfl, (by have := aiG l (zS s); omega), rfl, rfl⟩ (yC rfl (yC rfl (yC rfl (zW rfl (by rw [hc26]) yX)))) (Heap.le.refl _)
  ·rintro _ _ ⟨s2, neg, O, hO, hO1, hO2, hs2l, rfl, rfl⟩
   have hl2 := adM s2
   iterate 3 refine AX ?_
   refine .s rfl (zH Tryz.call37 (evs1 rfl) (blanksW l s2 _ _ _ _ (by omega) b21 _ (Heap.objs_set_same _ _ _))) ?_
   rintro _ _ rfl
   rw [Heap.set_set]
   iterate 5 refine AX ?_
   refine .s rfl (zH Tryz.call40 (evs1 rfl) (aqK l hl hk hg (zS s2) neg [] 0 0 (by omega) b21 _ (Heap.objs_set_same _ _ _))) ?_
   rintro _ _ ⟨q1, rfl, hH, hq1, hql, hqn⟩
   obtain rfl := hH.symm
   rw [Heap.set_set]
   have hlq := adM q1.s
   iterate 6 refine AX ?_
   refine .s rfl (zH Tryz.call37 (evs1 rfl) (blanksW l q1.s q1.neg q1.digits q1.exp q1.out (by omega) b21 _ (Heap.objs_set_same _ _ _))) ?_
   rintro _ _ rfl
   rw [Heap.set_set]
   iterate 2 refine AX ?_
   refine AWP.meet (fun env H2 => ∃ (s3 : List UInt8) (ok : Bool), (O = true → ok = ((afS l (zS s2)).isSome && hasPrefix (zS q1.s) [41]) ∧ s3 = zS (trimPrefix (zS q1.s) [41])) ∧ (O = false → ok = (afS l (zS s2)).isSome ∧ s3 = zS q1.s) ∧ env = [(4, .ptr (some ⟨b4, 0, none⟩)), (5, .int .i64 0), (6, .ptr (some ⟨b21, 0, none⟩)), (10, .bool ok)] ∧ H2 = (H.set b4 (.box 38 (EntN.cs EntN.zero))).set b21 (Wk l ⟨s3, neg, q1.digits, q1.exp, q1.out⟩)) ?_ ?_
   ·iterate 5 refine AX ?_
    refine AWP.cx rfl (fun hc45 => ?_) (fun hc45 => ?_)
    ·iterate 3 refine AX ?_
     refine .e rfl (zH Tryz.call38 (.cons (tm rfl) (.cons (zR rfl) .nil)) (takeW l (zS q1.s) q1.neg q1.digits q1.exp q1.out (by omega) b21 _ (Heap.objs_set_same _ _ _) _)) ?_
     rw [Heap.set_set]
     iterate 3 refine AX ?_
     refine AWP.seqTo 10 (.bool ((afS l (zS s2)).isSome && hasPrefix (zS q1.s) [41])) [4, 5, 6] ?_ ?_
     ·-- region 15
      iterate 3 refine AX ?_
      refine zI (t := 49) rfl (fun hg49 => ?_) (fun hg49 => ?_)
      ·iterate 4 refine AX ?_
       exact ⟨rfl, zZ rfl (by simp_all) sX, rfl⟩
      ·iterate 4 refine AX ?_
       exact ⟨rfl, zZ rfl (by simp_all) sX, rfl⟩
     ·refine AWP.sub [(10, _), (4, _), (5, _), (6, _)] sX ?_
      iterate 2 refine AX ?_
      refine .s rfl (zH Tryz.call37 (evs1 rfl) (blanksW l (trimPrefix (zS q1.s) [41]) q1.neg q1.digits q1.exp q1.out (by have := tpre_len (zS q1.s) [41]; omega) b21 _ (Heap.objs_set_same _ _ _))) ?_
      rintro _ _ rfl
      rw [Heap.set_set]
      iterate 2 refine AX ?_
      refine Meets.mk (M := fun env H2 => ∃ (s3 : List UInt8) (ok : Bool), (O = true → ok = ((afS l (zS s2)).isSome && hasPrefix (zS q1.s) [41]) ∧ s3 = zS (trimPrefix (zS q1.s) [41])) ∧ (O = false → ok = (afS l (zS s2)).isSome ∧ s3 = zS q1.s) ∧ env = [(4, .ptr (some ⟨b4, 0, none⟩)), (5, .int .i64 0), (6, .ptr (some ⟨b21, 0, none⟩)), (10, .bool ok)] ∧ H2 = (H.set b4 (.box 38 (EntN.cs EntN.zero))).set b21 (Wk l ⟨s3, neg, q1.digits, q1.exp, q1.out⟩)) ⟨_, _, fun _ => ⟨rfl, rfl⟩, (fun q => by rw [q] at hc45; cases hc45), rfl, rfl⟩ sX (by rw [← hqn]; exact Heap.le.refl _)
    ·iterate 2 refine AX ?_
     refine Meets.mk (M := fun env H2 => ∃ (s3 : List UInt8) (ok : Bool), (O = true → ok = ((afS l (zS s2)).isSome && hasPrefix (zS q1.s) [41]) ∧ s3 = zS (trimPrefix (zS q1.s) [41])) ∧ (O = false → ok = (afS l (zS s2)).isSome ∧ s3 = zS q1.s) ∧ env = [(4, .ptr (some ⟨b4, 0, none⟩)), (5, .int .i64 0), (6, .ptr (some ⟨b21, 0, none⟩)), (10, .bool ok)] ∧ H2 = (H.set b4 (.box 38 (EntN.cs EntN.zero))).set b21 (Wk l ⟨s3, neg, q1.digits, q1.exp, q1.out⟩)) ⟨_, _, (fun q => by rw [q] at hc45; cases hc45), fun _ => ⟨rfl, rfl⟩, rfl, rfl⟩ sX (by rw [← hqn]; exact Heap.le.refl _)
   ·rintro _ _ ⟨s3, ok, hO3, hO4, rfl, rfl⟩
    have hacc := bjV hl (by omega) hO hO1 hO2 hO3 hO4 hq1
    refine AX ?_
    refine AWP.seqTo 62 (.bool (!ok || decide (s3 ≠ []))) [4, 5, 6] ?_ ?_
    ·-- region 17
     iterate 4 refine AX ?_
     refine zI (t := 56) rfl (fun hg56 => ?_) (fun hg56 => ?_)
     ·iterate 7 refine AX ?_
      exact ⟨rfl, zZ rfl (by (simp [*]; done)) sX, rfl⟩
     ·iterate 2 refine AX ?_
      refine .gp rfl rfl rfl (by assumption) (zD Tryz.underlying84 rfl Tryz.sizeOf9 (tm rfl)) (.gs rfl rfl rfl (by assumption) (zN Tryz.isAgg9 (tm rfl) (Heap.objs_set_same _ _ _) rfl) ?_)
      rintro _ _ ⟨rfl, hH⟩
      obtain rfl := hH.symm
      iterate 3 refine AX ?_
      exact ⟨rfl, zZ rfl (by (simp [*]; done)) sX, rfl⟩
    ·refine AWP.sub [(62, _), (4, _), (5, _), (6, _)] sX ?_
     refine AWP.cx rfl (fun hc62 => ?_) (fun hc62 => ?_)
     ·rw [hacc.2 hc62] at hen
      iterate 2 refine AX ?_
      refine .p rfl (zU [(0, 1), (1, 1), (2, 1), (3, 1), (4, 1)] Tryz.underlying38 Tryz.zeroValue38 (zr38) rfl (pl38 _ Tryz.underlying38) .nil rfl) (.e0 (zB Tryz.sizeOf38 (tm rfl) (tm rfl) rfl rfl (.inr ⟨_, rfl⟩) ((Heap.objs_set_ne _ _ (by assumption)).trans (Heap.objs_set_same _ _ _)) (Nat.le_of_ble_eq_true rfl)) ?_)
      try first | rw [Heap.set_set] | rw [Heap.set_under (by assumption)]
      iterate 3 refine AX ?_
      refine AWP.dropb (hb21) ?_
      refine AWP.frz (t := 4) rfl (hb4) ?_
      iterate 2 refine AX ?_
      refine Ret.go (.cons (.cellI _ _ _ _ rfl Tryz.isAgg38 Tryz.sizeOf38 rfl) (.cons (.tmp _ _ rfl) .nil)) _ (Heap.le.refl _) ?_
      rw [hen]; exact ⟨rfl, rfl⟩
     ·obtain ⟨z, kd, d, e, k, gr, x, hac, hq2, rfl, hdd, hdl, he1, he2⟩ := hacc.1 hc62
      subst hq2
      rw [hac] at hen
      have hrb : (avR (mkN neg d e).1.1 (mkN neg d e).1.2.1 (mkN neg d e).1.2.2) = ahY (mkN neg d e).1.1 (mkN neg d e).1.2.1 (mkN neg d e).1.2.2 := bgT (aiR hdd)
      have hbt : (avR (mkN neg d e).1.1 (mkN neg d e).1.2.1 (mkN neg d e).1.2.2) < 18446744073709551616 := by rw [hrb]; exact bbE _ _ _
      iterate 3 refine AX ?_
      refine AWP.drawI (fun H2 => H2.objs b21 = some (Wk l ⟨[], neg, d, e, ⟨0, kd, (k : Int), gr, x⟩⟩)) [(0, true), (1, true), (2, true), (3, true), (4, true), (5, true), (6, true), (7, true), (8, true), (9, true), (10, true), (11, true), (12, true), (13, true), (14, true), (15, true), (16, false), (17, false), (18, true)] (by exact Heap.objs_set_same _ _ _) rfl (by decide +kernel) ?_
      iterate 2 refine AX ?_
      refine APlanI.p rfl rfl (zD Tryz.underlying84 rfl Tryz.sizeOf4 (tm rfl)) ?_
      refine APlanI.f rfl rfl (fun _ hI => zN Tryz.isAgg4 (tm rfl) (hI) rfl) ?_
      iterate 2 refine AX ?_
      refine APlanI.p rfl rfl (zD Tryz.underlying84 rfl Tryz.sizeOf9 (tm rfl)) ?_
      refine APlanI.f rfl rfl (fun _ hI => zN Tryz.isAgg9 (tm rfl) (hI) rfl) ?_
      iterate 2 refine AX ?_
      refine APlanI.p rfl rfl (zD Tryz.underlying84 rfl Tryz.sizeOf3 (tm rfl)) ?_
      refine APlanI.f rfl rfl (fun _ hI => zN Tryz.isAgg3 (tm rfl) (hI) rfl) ?_
      refine APlanI.f rfl rfl (fun _ hI => zH Tryz.call41 (evs3 rfl rfl rfl) (awW neg d e hdd (by omega) (by constructor <;> omega) _)) ?_
      iterate 3 refine AX ?_
      refine APlanI.s rfl rfl (zL Tryz.zeroValue48 (zr48)) ?_
      rintro _ _ ⟨b12, hb12, rfl, hH⟩
      obtain rfl := hH.symm
      have hn4_12 := Heap.ne_of (Heap.objs_set_same _ _ _) hb12
      have hn21_12 := Heap.ne_of (Heap.objs_set_same _ _ _) hb12
      refine ⟨by first | exact (Heap.objs_set_ne _ _ (by assumption)).trans (Heap.objs_set_same _ _ _) | skip, ?_⟩
      refine APlanI.s0 rfl (zB Tryz.sizeOf48 (tm rfl) (tm rfl) rfl rfl (.inr ⟨_, rfl⟩) (Heap.objs_set_same _ _ _) (Nat.le_of_ble_eq_true rfl)) ?_
      rintro _ _ ⟨rfl, hH⟩
      obtain rfl := hH.symm
      try first | rw [Heap.set_set] | rw [Heap.set_under (by assumption)]
      refine ⟨by first | exact (Heap.objs_set_ne _ _ (by assumption)).trans (Heap.objs_set_same _ _ _) | skip, ?_⟩
      iterate 3 refine AX ?_
      refine AWP.frz (t := 12) rfl (hb12) ?_
      iterate 7 refine AX ?_
      refine AWP.cx rfl (fun hc81 => ?_) (fun hc81 => ?_)
      ·have hm0 : (mkN neg d e).2 ≠ 0 := by simpa using hc81
       rw [made_z hm0] at hen
       iterate 2 refine AX ?_
       refine .p rfl (zU [(0, 1), (1, 1), (2, 1), (3, 1), (4, 1)] Tryz.underlying38 Tryz.zeroValue38 (zr38) rfl (pl38 _ Tryz.underlying38) .nil rfl) (.e0 (zB Tryz.sizeOf38 (tm rfl) (tm rfl) rfl rfl (.inr ⟨_, rfl⟩) ((Heap.objs_set_ne _ _ (by assumption)).trans (Heap.objs_set_same _ _ _)) (Nat.le_of_ble_eq_true rfl)) ?_)
       try first | rw [Heap.set_set] | rw [Heap.set_under (by assumption)]
       iterate 3 refine AX ?_
       refine AWP.dropb (hb21) ?_
       refine AWP.frz (t := 4) rfl (hb4) ?_
       iterate 2 refine AX ?_
       refine Ret.go (.cons (.cellI _ _ _ _ rfl Tryz.isAgg38 Tryz.sizeOf38 rfl) (.cons (.tmp _ _ rfl) .nil)) _ (Heap.le.refl _) ?_
       rw [hen]; exact ⟨rfl, rfl⟩
      ·have hm0 : ¬ (mkN neg d e).2 ≠ 0 := by simpa using hc81
       rw [made_k hrb hm0] at hen
       iterate 6 refine AX ?_
       refine .cl rfl Tryz.call18 (evs1 rfl) (atR (mkN neg d e).1.1 (mkN neg d e).1.2.1 (mkN neg d e).1.2.2 (aiR hdd) (by have := mk_len neg d e; omega) _) ?_
       refine AX ?_
       refine .p rfl (zD Tryz.underlying84 rfl Tryz.sizeOf38 (tm rfl)) (.p rfl (zD Tryz.underlying38 rfl Tryz.sizeOf30 (tm rfl)) (.e0 (zB Tryz.sizeOf30 (tm rfl) (tm rfl) rfl rfl (.inl rfl) (Heap.objs_set_same _ _ _) (Nat.le_of_ble_eq_true rfl)) ?_))
       try first | rw [Heap.set_set] | rw [Heap.set_under (by assumption)]
       iterate 7 refine AX ?_
       refine .p rfl (zD Tryz.underlying84 rfl Tryz.sizeOf38 (tm rfl)) (.p rfl (zD Tryz.underlying38 rfl Tryz.sizeOf30 (tm rfl)) (.e rfl (zN Tryz.isAgg30 (tm rfl) (Heap.objs_set_same _ _ _) rfl) (.cl rfl Tryz.call16 (evs1 rfl) (awY (avR (mkN neg d e).1.1 (mkN neg d e).1.2.1 (mkN neg d e).1.2.2) hbt _) ?_)))
       iterate 3 refine AX ?_
       refine AWP.cx rfl (fun hc95 => ?_) (fun hc95 => ?_)
       ·have hk3 : qD (avR (mkN neg d e).1.1 (mkN neg d e).1.2.1 (mkN neg d e).1.2.2) = 3 := by omega
        rw [if_pos hk3] at hen
        iterate 2 refine AX ?_
        refine .p rfl (zU [(0, 1), (1, 1), (2, 1), (3, 1), (4, 1)] Tryz.underlying38 Tryz.zeroValue38 (zr38) rfl (pl38 _ Tryz.underlying38) .nil rfl) (.e0 (zB Tryz.sizeOf38 (tm rfl) (tm rfl) rfl rfl (.inr ⟨_, rfl⟩) ((Heap.objs_set_ne _ _ (by assumption)).trans (Heap.objs_set_same _ _ _)) (Nat.le_of_ble_eq_true rfl)) ?_)
        try first | rw [Heap.set_set] | rw [Heap.set_under (by assumption)]
        iterate 3 refine AX ?_
        refine AWP.dropb (hb21) ?_
        refine AWP.frz (t := 4) rfl (hb4) ?_
        iterate 2 refine AX ?_
        refine Ret.go (.cons (.cellI _ _ _ _ rfl Tryz.isAgg38 Tryz.sizeOf38 rfl) (.cons (.tmp _ _ rfl) .nil)) _ (Heap.le.refl _) ?_
        rw [hen]; exact ⟨rfl, rfl⟩
       ·have hk3 : ¬ qD (avR (mkN neg d e).1.1 (mkN neg d e).1.2.1 (mkN neg d e).1.2.2) = 3 := by omega
        rw [if_neg hk3] at hen
        iterate 6 refine AX ?_
        refine .p rfl (zD Tryz.underlying84 rfl Tryz.sizeOf38 (tm rfl)) (.e rfl (yJ Tryz.isAgg38 Tryz.sizeOf38 (tm rfl) (Heap.objs_set_same _ _ _) (Nat.le_of_ble_eq_true rfl)) (.e0 (zB Tryz.sizeOf38 (tm rfl) (tm rfl) rfl rfl (.inr ⟨_, rfl⟩) ((Heap.objs_set_ne _ _ (by assumption)).trans (Heap.objs_set_same _ _ _)) (Nat.le_of_ble_eq_true rfl)) ?_))
        try first | rw [Heap.set_set] | rw [Heap.set_under (by assumption)]
        iterate 3 refine AX ?_
        refine AWP.dropb (Heap.fresh_set hb21 _) ?_
        refine AWP.frz (t := 4) rfl (hb4) ?_
        refine AX ?_
        refine Ret.go (.cons (.cellI _ _ _ _ rfl Tryz.isAgg38 Tryz.sizeOf38 rfl) (.cons (.tmp _ _ rfl) .nil)) _ (Heap.le.refl _) ?_
        rw [hen]; exact ⟨rfl, rfl⟩
section
open Go Go.RowKit

set_option maxRecDepth 100000 in
theorem avN (l : Loc) (s : List UInt8) (hs : 1000 < s.length) (b : Nat) (H : Heap) : ACall Tryz.prog 11 [erA l b, .str s] H (fun y H' => y = .tuple [.agg EntN.zero.cs, .int .i64 4] ∧ H' = H) := by
 refine ACall.of_body Tryz.func11 rfl Tryz.ntmps11 Tryz.results11 rfl ?_
 iterate 2 refine AX ?_
 refine .s rfl (zL Tryz.zeroValue32 (zr32)) ?_
 rintro _ _ ⟨b4, hb4, rfl, hH⟩
 obtain rfl := hH.symm
 iterate 11 refine AX ?_
 refine AWP.cx rfl (fun hc16 => ?_) (fun hc16 => ?_)
 ·iterate 2 refine AX ?_
  refine .p rfl (zU [(0, 1), (1, 1), (2, 1), (3, 1), (4, 1)] Tryz.underlying32 Tryz.zeroValue32 (zr32) rfl (pl32 _ Tryz.underlying32) .nil rfl) (.e0 (zB Tryz.sizeOf32 (tm rfl) (tm rfl) rfl rfl (.inr ⟨_, rfl⟩) (Heap.objs_set_same _ _ _) (Nat.le_of_ble_eq_true rfl)) ?_)
  try first | rw [Heap.set_set] | rw [Heap.set_under (by assumption)]
  iterate 3 refine AX ?_
  refine AWP.frz (t := 4) rfl (hb4) ?_
  iterate 2 refine AX ?_
  refine Ret.go (.cons (.cellI _ _ _ _ rfl Tryz.isAgg32 Tryz.sizeOf32 rfl) (.cons (.tmp _ _ rfl) .nil)) _ (Heap.le.refl _) ?_
  exact ⟨rfl, rfl⟩
 ·omega

theorem avO (l : Loc) (hl : l.entOk) (hk : l.ok) (hg : l.grp ≠ []) (f : Nat → List AV) (hf : ROK f) (s : List UInt8) (b : Nat) (H : Heap) (hb : H.objs b = some (.box 129 (abE f))) : ACall Tryz.prog 11 [erA l b, .str s] H (fun y H' => y = .tuple [.agg (aeJ l s).1.cs, .int .i64 (aeJ l s).2] ∧ ∃ f', ROK f' ∧ H' = H.set b (.box 129 (abE f'))) := by
 by_cases hs : s.length ≤ 1000
 ·have e : aeJ l s = acE l (qM zQ s) := by unfold aeJ; rw [if_neg (by omega), made_ref hl]
  rw [e]
  exact abU l hk hg f hf s hs b H hb
 ·have e : aeJ l s = (EntN.zero, 4) := by unfold aeJ; rw [if_pos (by omega)]
  rw [e]
  exact (avN l s (by omega) b H).mono fun y H' h => ⟨h.1, f, hf, by rw [h.2]; exact (Heap.set_self hb).symm⟩

set_option maxRecDepth 100000 in
theorem bcJ (o : EntN) (H : Heap) : ACall Tryz.prog 13 [.agg o.cs, .agg o.cs] H (fun y H' => y = .bool true ∧ H' = H) := by
 have h1 : decide ((o.bits : Int) = (o.bits : Int)) = true := decide_eq_true rfl
 have h2 : decide (o.kind = o.kind) = true := decide_eq_true rfl
 have h3 : decide (o.places = o.places) = true := decide_eq_true rfl
 have h4 : decide (o.grouped = o.grouped) = true := decide_eq_true rfl
 have h5 : decide (o.exp = o.exp) = true := decide_eq_true rfl
 have h6 : (o.grouped == o.grouped) = true := beq_self_eq_true _
 have h7 : (o.exp == o.exp) = true := beq_self_eq_true _
 refine ACall.of_body Tryz.func13 rfl Tryz.ntmps13 Tryz.results13 rfl ?_
 iterate 2 refine AX ?_
 refine .e rfl (yF (tm rfl) (.inr ⟨_, rfl⟩)) (.e rfl (yF (tm rfl) (.inr ⟨_, rfl⟩)) ?_)
 iterate 5 refine AX ?_
 refine .p rfl (zA Tryz.underlying32 rfl Tryz.sizeOf30 (tm rfl)) ?_
 refine AX ?_
 refine .p rfl (zA Tryz.underlying38 rfl Tryz.sizeOf30 (tm rfl)) ?_
 iterate 3 refine AX ?_
 refine .gp rfl rfl rfl (by assumption) (zA Tryz.underlying32 rfl Tryz.sizeOf3 (tm rfl)) ?_
 refine AX ?_
 refine .gp rfl rfl rfl (by assumption) (zA Tryz.underlying38 rfl Tryz.sizeOf3 (tm rfl)) ?_
 iterate 4 refine AX ?_
 refine .gp rfl rfl rfl (by assumption) (zA Tryz.underlying32 rfl Tryz.sizeOf3 (tm rfl)) ?_
 refine AX ?_
 refine .gp rfl rfl rfl (by assumption) (zA Tryz.underlying38 rfl Tryz.sizeOf3 (tm rfl)) ?_
 iterate 4 refine AX ?_
 refine .gp rfl rfl rfl (by assumption) (zA Tryz.underlying32 rfl Tryz.sizeOf4 (tm rfl)) ?_
 refine AX ?_
 refine .gp rfl rfl rfl (by assumption) (zA Tryz.underlying38 rfl Tryz.sizeOf4 (tm rfl)) ?_
 refine AX ?_
 refine .gp rfl rfl rfl (by assumption) (atV Tryz.underlying4 (tm rfl) (tm rfl)) ?_
 iterate 2 refine AX ?_
 refine .gp rfl rfl rfl (by assumption) (zA Tryz.underlying32 rfl Tryz.sizeOf4 (tm rfl)) ?_
 refine AX ?_
 refine .gp rfl rfl rfl (by assumption) (zA Tryz.underlying38 rfl Tryz.sizeOf4 (tm rfl)) ?_
 refine AX ?_
 refine .gp rfl rfl rfl (by assumption) (atV Tryz.underlying4 (tm rfl) (tm rfl)) ?_
 iterate 5 refine AX ?_
 refine Ret.go (.cons (.tmp _ _ rfl) .nil) _ (Heap.le.refl _) ?_
 exact ⟨by first | (rw [h5]; rfl) | (rw [h7]; rfl), rfl⟩

set_option maxRecDepth 100000 in
theorem ayZ (hsh : ∀ H, ACall Tryz.prog 8 [] H (fun y H' => y = .bool true ∧ H' = H)) (c : Int) (hc : -9223372036854775808 ≤ c ∧ c ≤ 9223372036854775807) (s : List UInt8) (H : Heap) : ACall Tryz.prog 3 [.int .i64 c, .str s] H (fun y H' => y = .bool true ∧ H' = H) := by
 refine ACall.of_body Tryz.func3 rfl Tryz.ntmps3 Tryz.results3 rfl ?_
 iterate 7 refine AX ?_
 refine .cl rfl Tryz.call8 .nil (hsh _) ?_
 iterate 15 refine AX ?_
 refine AWP.cx rfl (fun hc20 => ?_) (fun hc20 => ?_)
 ·iterate 8 refine AX ?_
  refine Ret.go (.cons (.tmp _ _ rfl) .nil) _ (Heap.le.refl _) ?_
  exact ⟨rfl, rfl⟩
 ·have hs9 : s.length ≤ 2000 := by omega
  iterate 5 refine AX ?_
  refine .s rfl (zH Tryz.call9 (evs1 rfl) (axZ c hc _)) ?_
  rintro _ _ ⟨⟨l, hlm, rfl⟩, hH⟩
  obtain rfl := hH.symm
  have hk := afG l hlm
  have hgr := afH l hlm
  have hle := locs_ent l hlm
  iterate 3 refine AX ?_
  refine .s rfl (zL Tryz.zeroValue25 (zr25)) ?_
  rintro _ _ ⟨b6, hb6, rfl, hH⟩
  obtain rfl := hH.symm
  refine .s rfl (zL Tryz.zeroValue27 (zr27)) ?_
  rintro _ _ ⟨b7, hb7, rfl, hH⟩
  obtain rfl := hH.symm
  have hn6_7 := Heap.ne_of (Heap.objs_set_same _ _ _) hb7
  refine .e0 (zB Tryz.sizeOf25 (tm rfl) (tm rfl) rfl rfl (.inr ⟨_, rfl⟩) ((Heap.objs_set_ne _ _ (by assumption)).trans (Heap.objs_set_same _ _ _)) (Nat.le_of_ble_eq_true rfl)) ?_
  try first | rw [Heap.set_set] | rw [Heap.set_under (by assumption)]
  refine .e0 (zB Tryz.sizeOf27 (tm rfl) (tm rfl) rfl rfl (.inr ⟨_, rfl⟩) (Heap.objs_set_same _ _ _) (Nat.le_of_ble_eq_true rfl)) ?_
  try first | rw [Heap.set_set] | rw [Heap.set_under (by assumption)]
  iterate 2 refine AX ?_
  refine AWP.frz (t := 7) rfl (Heap.fresh_set hb7 _) ?_
  refine AWP.frz (t := 6) rfl (hb6) ?_
  iterate 3 refine AX ?_
  refine .s rfl (zH Tryz.call10 (evs1 rfl) (ajT l _)) ?_
  rintro _ _ ⟨b, hb0, rfl, rfl⟩
  refine AX ?_
  refine .s rfl (zH Tryz.call11 (evs2 rfl rfl) (avO l hle hk hgr akP anJ s b _ (Heap.objs_set_same _ _ _))) ?_
  rintro _ _ ⟨rfl, f1, hf1, rfl⟩
  rw [Heap.set_set]
  have hes : decide ((aeJ l s).2 = (aeJ l s).2) = true := decide_eq_true rfl
  iterate 3 refine AX ?_
  refine .s rfl (zL Tryz.zeroValue32 (zr32)) ?_
  rintro _ _ ⟨b8, hb8, rfl, hH⟩
  obtain rfl := hH.symm
  refine .e0 (zB Tryz.sizeOf32 (tm rfl) (tm rfl) rfl rfl (.inr ⟨_, rfl⟩) (Heap.objs_set_same _ _ _) (Nat.le_of_ble_eq_true rfl)) ?_
  try first | rw [Heap.set_set] | rw [Heap.set_under (by assumption)]
  iterate 3 refine AX ?_
  refine AWP.frz (t := 8) rfl (hb8) ?_
  iterate 4 refine AX ?_
  refine .cl rfl Tryz.call12 (evs2 rfl rfl) (atQ l hle hk hgr s hs9 _) ?_
  iterate 3 refine AX ?_
  refine .s rfl (zL Tryz.zeroValue38 (zr38)) ?_
  rintro _ _ ⟨b10, hb10, rfl, hH⟩
  obtain rfl := hH.symm
  refine .e0 (zB Tryz.sizeOf38 (tm rfl) (tm rfl) rfl rfl (.inr ⟨_, rfl⟩) (Heap.objs_set_same _ _ _) (Nat.le_of_ble_eq_true rfl)) ?_
  try first | rw [Heap.set_set] | rw [Heap.set_under (by assumption)]
  iterate 3 refine AX ?_
  refine AWP.frz (t := 10) rfl (hb10) ?_
  iterate 4 refine AX ?_
  refine .cl rfl Tryz.call13 (evs2 rfl rfl) (bcJ _ _) ?_
  iterate 15 refine AX ?_
  refine Ret.go (.cons (.tmp _ _ rfl) .nil) H (Heap.le_set hb0 _) ?_
  exact ⟨by rw [hes]; rfl, rfl⟩

end
end Go.Proofs.YtfkeflcdadlmdaaGreatDoor
