import Derived.Test.YtmmgbnolccpjoaaGreatDoorB5
set_option maxHeartbeats 1000000
namespace Go.Proofs.YtmmgbnolccpjoaaGreatDoor
open Go.Proofs.Tryz
open Go Go.RowKit
open Go.Lib
variable {l : Loc} {d t : List UInt8} {gr neg x : Bool} {k : Nat} {kd : Int}
section

set_option maxRecDepth 100000
theorem baQ {s : List UInt8} : (((!decide (t = []) && hasPrefix s l.grp) && decide ((l.grp.length : Int) < (s.length : Int))) && anF (s.getD ((l.grp.length : Nat) : Int).toNat 0)) = agL l t s := by
 unfold agL
 rw [cX, Bool.and_assoc (!decide (t = []) && hasPrefix s l.grp), show decide ((l.grp.length : Int) < (s.length : Int)) = decide (l.grp.length < s.length) from aY.2 aA]
 cases t <;> rfl
theorem akF {l : Loc} (hg : l.grp ≠ []) : ∀ (f g : Nat) (a t s : List UInt8) (x : Bool), s.length ≤ f → s.length ≤ g → acI l f a t s x = acI l g a t s x
 | 0, g, a, t, s, x, h, _ => by
  have : s = [] := bV.1 aA
  subst this
  rw [abI (by unfold agL; simp), abI (by unfold agL; simp)]
 | f + 1, 0, a, t, s, x, _, h => by
  have : s = [] := bV.1 aA
  subst this
  rw [abI (by unfold agL; simp), abI (by unfold agL; simp)]
 | f + 1, g + 1, a, t, s, x, h1, h2 => by
  have := bP.2 hg
  have hr := afY (s.drop l.grp.length)
  rw [aW] at hr
  rw [acI, acI]
  split
  ·exact akF hg f g _ _ _ _ aA aA
  rfl
theorem anD {s : List UInt8} (h : agL l t s = true) : hasPrefix s l.grp = true ∧ l.grp.length < s.length := by
 unfold agL at h
 simp only [bK, aO] at h
 exact ⟨h.1.2, h.2.1⟩
theorem brD (hg : l.grp ≠ []) {a s : List UInt8} (h : agL l t s = true) : acI l s.length a t s x = acI l (aaY (s.drop l.grp.length)).length (a ++ abV (s.drop l.grp.length)) (t ++ l.grp ++ abV (s.drop l.grp.length)) (aaY (s.drop l.grp.length)) true := by
 have hp := anD h
 have := bP.2 hg
 have hr := afY (s.drop l.grp.length)
 rw [aW] at hr
 obtain ⟨f, hf⟩ : ∃ f, s.length = f + 1 := ⟨s.length - 1, by omega⟩
 rw [hf, acI, aN h]
 exact akF hg _ _ _ _ _ _ aA (aT _)
theorem atI {l : Loc} : ∀ (f : Nat) (a t s : List UInt8) (x : Bool), (acI l f a t s x).2.1.length + (acI l f a t s x).2.2.1.length ≤ t.length + s.length ∧ (a.length ≤ t.length → (acI l f a t s x).1.length ≤ (acI l f a t s x).2.1.length)
 | 0, a, t, s, x => ⟨aT _, fun h => h⟩
 | f + 1, a, t, s, x => by
  rw [acI]
  split
  ·rename_i h
   have hp := anD h
   have hr := congrArg List.length (abX (s.drop l.grp.length))
   rw [aP, aW] at hr
   have ih := atI (l := l) f (a ++ abV (s.drop l.grp.length)) (t ++ l.grp ++ abV (s.drop l.grp.length)) (aaY (s.drop l.grp.length)) true
   simp only [aP] at ih
   exact ⟨by omega, fun h => ih.2 aA⟩
  exact ⟨aT _, fun h => h⟩
theorem ceX (l : Loc) (s : List UInt8) : (wR l s).2.1.length + (wR l s).2.2.1.length ≤ s.length ∧ (wR l s).1.length ≤ (wR l s).2.1.length := by
 have h := atI (l := l) s.length (abV s) (abV s) (aaY s) false
 have hr := congrArg List.length (abX s)
 rw [aP] at hr
 exact ⟨bE h.1 aA, h.2 (aT _)⟩
theorem cfQ (l : Loc) (s : List UInt8) : (pR l s).1.length + (pR l s).2.length ≤ s.length := by
 unfold pR
 split
 ·have hr := congrArg List.length (abX (s.drop l.dc.length))
  rw [aP, aW] at hr
  simp only
  omega
 simp

def bgZ (l : Loc) (s0 ds0 : List UInt8) (neg0 : Bool) (e0 : Int) (bits0 : Nat) (kind0 : Int) (x0 : Bool) (b : Nat) (H : Heap) : Nat → Env → Heap → Prop := fun k env H1 => ∃ (a t s : List UInt8) (g : Bool), acI l s.length a t s g = wR l s0 ∧ t.length + s.length ≤ s0.length ∧ a.length ≤ t.length ∧ env = [(0, .ptr (some ⟨b, 0, none⟩)), (3, .str t), (4, .str a)] ∧ H1 = H.set b (Wk l ⟨s, neg0, ds0, e0, ⟨bits0, kind0, 0, g, x0⟩⟩) ∧ k = s.length

theorem bcO (l : Loc) (hk : l.ok) (hs2 : l.second = 2 ∨ l.second = 3) (hg : l.grp ≠ []) (s0 : List UInt8) (neg0 : Bool) (ds0 : List UInt8) (e0 : Int) (bits0 : Nat) (kind0 : Int) (x0 : Bool) (hq : s0.length ≤ 2000) (b : Nat) (H : Heap) (hb : H.objs b = some (Wk l ⟨s0, neg0, ds0, e0, ⟨bits0, kind0, 0, false, x0⟩⟩)) : ACall prog 226 [.ptr (some ⟨b, 0, none⟩)] H (fun y H' => y = .str (wR l s0).1 ∧ H' = H.set b (Wk l ⟨(wR l s0).2.2.1, neg0, ds0, e0, ⟨bits0, kind0, if (wR l s0).2.1 ≠ [] ∧ aeM l (wR l s0).2.1 = none then -1 else 0, (wR l s0).2.2.2, x0⟩⟩)) := by
 obtain ⟨hk1, hk2, hk3, hk4, hk5⟩ := id hk
 have hgl := bP.2 hg
 have hml := zK
 refine ACall.of_body func226 rfl ntmps226 results226 rfl ?_
 iterate 8 refine AX ?_
 refine .e rfl (zB C227 (evs1 rfl) (rowW l _ _ _ _ _ hq b _ hb)) ?_
 iterate 11 refine AX ?_
 refine AWP.loopW (bgZ l s0 ds0 neg0 e0 bits0 kind0 x0 b H) ((aaY s0).length) ⟨abV s0, abV s0, aaY s0, false, by unfold wR; exact akF hg _ _ _ _ _ _ (aT _) (afY s0).1, by have := congrArg List.length (abX s0); rw [aP] at this; omega, aT _, rfl, rfl, rfl⟩ sX (hRa _) ?_
 rintro _ _ _ ⟨a, t, s, g, hw, hl1, hl2, rfl, rfl, rfl⟩
 have hsl : s.length ≤ 2000 := by omega
 refine AX ?_
 refine AWP.seqTo 52 (.bool (((!decide (t = []) && hasPrefix s l.grp) && decide ((l.grp.length : Int) < (s.length : Int))) && anF (s.getD ((l.grp.length : Nat) : Int).toNat 0))) [0, 3, 4] ?_ ?_
 ·-- region 3
  refine AWP.drawI (fun H2 => H2.objs b = some (Wk l ⟨s, neg0, ds0, e0, ⟨bits0, kind0, 0, g, x0⟩⟩)) [(0, true), (1, true), (2, true), (3, true), (4, true), (5, true), (6, true), (7, true), (8, true), (9, true), (10, true), (11, true), (12, true), (13, true), (14, true), (15, true), (16, true), (17, true), (18, true), (19, true), (20, true), (21, true), (22, true), (23, true), (24, true), (25, true), (26, true), (27, true), (28, true), (29, true), (30, true), (31, true), (32, true), (33, true), (34, true), (35, true), (36, true), (37, true), (38, true), (39, true), (40, true), (41, true)] (by exact oS _ _ _) rfl aE ?_
  iterate 3 refine AX ?_
  refine akY (t := 13) rfl (fun hg13 => ?_) (fun hg13 => ?_)
  ·iterate 2 refine AX ?_
   refine APlanI.gp rfl rfl rfl rfl aB (zC U139 rfl Z9 (tm rfl)) ?_
   refine APlanI.gf rfl rfl rfl rfl aB (fun _ hI => yD G9 (tm rfl) (hI) rfl) ?_
   iterate 2 refine AX ?_
   refine APlanI.gp rfl rfl rfl rfl aB (zC U139 rfl Z31 (tm rfl)) ?_
   refine APlanI.gp rfl rfl rfl rfl aB (zC U31 rfl Z9 (tm rfl)) ?_
   refine APlanI.gf rfl rfl rfl rfl aB (fun _ hI => yD G9 (tm rfl) (hI) rfl) ?_
   refine APlanI.gf rfl rfl rfl rfl aB (fun _ hI => zB C169 (evs2 rfl rfl) (agE _ _ _)) ?_
   iterate 2 refine AX ?_
   refine akY (t := 25) rfl (fun hg25 => ?_) (fun hg25 => ?_)
   ·iterate 2 refine AX ?_
    refine APlanI.gp rfl rfl rfl rfl aB (zC U139 rfl Z9 (tm rfl)) ?_
    refine APlanI.gf rfl rfl rfl rfl aB (fun _ hI => yD G9 (tm rfl) (hI) rfl) ?_
    iterate 3 refine AX ?_
    refine APlanI.gp rfl rfl rfl rfl aB (zC U139 rfl Z31 (tm rfl)) ?_
    refine APlanI.gp rfl rfl rfl rfl aB (zC U31 rfl Z9 (tm rfl)) ?_
    refine APlanI.gf rfl rfl rfl rfl aB (fun _ hI => yD G9 (tm rfl) (hI) rfl) ?_
    iterate 4 refine AX ?_
    refine akY (t := 39) rfl (fun hg39 => ?_) (fun hg39 => ?_)
    ·iterate 2 refine AX ?_
     refine APlanI.gp rfl rfl rfl rfl aB (zC U139 rfl Z9 (tm rfl)) ?_
     refine APlanI.gf rfl rfl rfl rfl aB (fun _ hI => yD G9 (tm rfl) (hI) rfl) ?_
     iterate 2 refine AX ?_
     refine APlanI.gp rfl rfl rfl rfl aB (zC U139 rfl Z31 (tm rfl)) ?_
     refine APlanI.gp rfl rfl rfl rfl aB (zC U31 rfl Z9 (tm rfl)) ?_
     refine APlanI.gf rfl rfl rfl rfl aB (fun _ hI => yD G9 (tm rfl) (hI) rfl) ?_
     refine AX ?_
     refine APlanI.gp rfl rfl rfl rfl aB (aaT U9 (tm rfl) (tm rfl) (by have := of_decide_eq_true hg39; omega) (by have := of_decide_eq_true hg39; omega)) ?_
     refine APlanI.gf rfl rfl rfl rfl aB (fun _ hI => zB call274 (evs1 rfl) (anW _ _)) ?_
     iterate 2 refine AX ?_
     exact ⟨rfl, zO rfl (by (rw [show (!decide (t = [])) = _ from hg13, show hasPrefix s l.grp = _ from hg25, show decide ((l.grp.length : Int) < (s.length : Int)) = _ from hg39]; rfl)) sX, rfl⟩
    iterate 14 refine AX ?_
    exact ⟨rfl, zO rfl (by (rw [show (!decide (t = [])) = _ from hg13, show hasPrefix s l.grp = _ from hg25, show decide ((l.grp.length : Int) < (s.length : Int)) = _ from hg39]; rfl)) sX, rfl⟩
   iterate 28 refine AX ?_
   exact ⟨rfl, zO rfl (by (rw [show (!decide (t = [])) = _ from hg13, show hasPrefix s l.grp = _ from hg25]; rfl)) sX, rfl⟩
  iterate 40 refine AX ?_
  exact ⟨rfl, zO rfl (by (rw [show (!decide (t = [])) = _ from hg13]; rfl)) sX, rfl⟩
 refine AWP.sub [(52, _), (0, _), (3, _), (4, _)] sX ?_
 refine AWP.cx rfl (fun hc52 => ?_) (fun hc52 => ?_)
 ·have hm : agL l t s = true := by rw [← baQ]; exact hc52
  have hmp := anD hm
  iterate 8 refine AX ?_
  refine .p rfl (zC U139 rfl Z31 (tm rfl)) (.p rfl (zC U31 rfl Z9 (tm rfl)) ?_)
  refine AX ?_
  refine .e rfl (zB C101 (evs2 rfl rfl) (takeW l _ _ _ _ _ hsl b _ (oS _ _ _) _)) ?_
  rw [sS]
  simp only [abW hmp.1]
  iterate 5 refine AX ?_
  refine .e rfl (zB C227 (evs1 rfl) (rowW l (s.drop l.grp.length) _ _ _ _ (by rw [aW]; omega) b _ (oS _ _ _))) ?_
  rw [sS]
  iterate 8 refine AX ?_
  refine .p rfl (zC U139 rfl Z31 (tm rfl)) (.p rfl (zC U31 rfl Z9 (tm rfl)) ?_)
  refine AX ?_
  refine .p rfl (zS (tm rfl) (tm rfl) (by rw [zK]; omega)) ?_
  refine AX ?_
  refine .p rfl (zS (tm rfl) (tm rfl) (by have := afY (s.drop l.grp.length); rw [zK, aP]; rw [aW] at this; omega)) ?_
  iterate 7 refine AX ?_
  refine .p rfl (zS (tm rfl) (tm rfl) (by have := afY (s.drop l.grp.length); rw [zK]; rw [aW] at this; omega)) ?_
  iterate 6 refine AX ?_
  refine .p rfl (zC U139 rfl Z79 (tm rfl)) (.p rfl (zC U79 rfl Z4 (tm rfl)) ?_)
  iterate 4 refine AX ?_
  refine Round.mk (J := bgZ l s0 ds0 neg0 e0 bits0 kind0 x0 b H) ⟨a ++ abV (s.drop l.grp.length), t ++ l.grp ++ abV (s.drop l.grp.length), aaY (s.drop l.grp.length), true, by rw [← brD hg hm]; exact hw, by have := congrArg List.length (abX (s.drop l.grp.length)); simp only [aP, aW] at this ⊢; omega, by simp only [aP]; omega, rfl, rfl, rfl⟩ sX (hRa _) (by have := afY (s.drop l.grp.length); rw [aW] at this; omega)
 have hm : agL l t s = false := by rw [← baQ]; exact hc52
 have hww : wR l s0 = (a, t, s, g) := by rw [← hw]; exact abI hm _ _ _
 iterate 9 refine AX ?_
 refine .p rfl (zC U139 rfl Z31 (tm rfl)) ?_
 iterate 2 refine AX ?_
 refine .cl rfl call275 (evs2 rfl rfl) (azU l hk hs2 hg t aA _) ?_
 iterate 8 refine AX ?_
 refine AWP.seqTo 92 (.bool (!decide (t = []) && !(aeM l t).isSome)) [0, 4] ?_ ?_
 ·-- region 10
  iterate 4 refine AX ?_
  refine zD (t := 89) rfl (fun hg89 => ?_) (fun hg89 => ?_)
  ·iterate 4 refine AX ?_
   exact ⟨rfl, zO rfl (by (rw [show (!decide (t = [])) = _ from hg89]; rfl)) sX, rfl⟩
  iterate 4 refine AX ?_
  exact ⟨rfl, zO rfl (by (rw [show (!decide (t = [])) = _ from hg89]; rfl)) sX, rfl⟩
 refine AWP.sub [(92, _), (0, _), (4, _)] sX ?_
 refine AWP.cx rfl (fun hc92 => ?_) (fun hc92 => ?_)
 ·have hbad : t ≠ [] ∧ aeM l t = none := by simpa using hc92
  iterate 3 refine AX ?_
  refine .p rfl (zC U139 rfl Z79 (tm rfl)) (.p rfl (zC U79 rfl Z3 (tm rfl)) ?_)
  iterate 11 refine AX ?_
  refine ⟨by rw [hww]; rfl, ?_⟩
  rw [hww]
  simp only [aN hbad]
  rfl
 have hbad : ¬ (t ≠ [] ∧ aeM l t = none) := by intro q; rw [q.2, bD q.1] at hc92; cases hc92
 iterate 10 refine AX ?_
 refine ⟨by rw [hww]; rfl, ?_⟩
 rw [hww]
 simp only [aL hbad]
 done

def caB (l : Loc) (b : Nat) (D : List UInt8) (neg : Bool) (H : Heap) : Nat → Env → Heap → Prop := fun k env H1 => ∃ i : Nat, i ≤ D.length ∧ env = [(0, .ptr (some ⟨b, 0, none⟩)), (7, .bool neg), (8, .str D), (9, .int .i64 (num (D.take i) : Int)), (10, .int .i64 (i : Int))] ∧ H = H1 ∧ k = D.length - i

theorem avR (l : Loc) (hk : l.ok) (hs2 : l.second = 2 ∨ l.second = 3) (hg : l.grp ≠ []) (s0 : List UInt8) (neg0 : Bool) (ds0 : List UInt8) (e0 : Int) (bits0 : Nat) (kind0 : Int) (hq : s0.length ≤ 2000) (b : Nat) (H : Heap) (hb : H.objs b = some (Wk l ⟨s0, neg0, ds0, e0, ⟨bits0, kind0, 0, false, false⟩⟩)) : ACall prog 170 [.ptr (some ⟨b, 0, none⟩)] H (fun y H' => ∃ q' : WkN, y = .bool (amN l s0).isSome ∧ H' = H.set b (Wk l q') ∧ (∀ d e k gr x z, amN l s0 = some (d, e, k, gr, x, z) → q' = ⟨z, neg0, d, e, ⟨bits0, kind0, (k : Int), gr, x⟩⟩) ∧ q'.s.length ≤ s0.length ∧ q'.neg = neg0) := by
 obtain ⟨hk1, hk2, hk3, hk4, hk5⟩ := id hk
 have hgl := bP.2 hg
 have hml := zK
 have hwc := bcO l hk hs2 hg s0 neg0 ds0 e0 bits0 kind0 false hq b H hb
 have hwl := ceX l s0
 rcases hw : wR l s0 with ⟨A, T, Y, G⟩
 rw [hw] at hwc hwl
 simp only at hwc hwl
 refine ACall.of_body func170 rfl ntmps170 results170 rfl ?_
 iterate 8 refine AX ?_
 refine .e rfl (zB call226 (evs1 rfl) (hwc)) ?_
 iterate 8 refine AX ?_
 refine .p rfl (zC U139 rfl Z79 (tm rfl)) (.p rfl (zC U79 rfl Z3 (tm rfl)) ?_)
 iterate 4 refine AX ?_
 refine AWP.cx rfl (fun hc18 => ?_) (fun hc18 => ?_)
 ·have hbad : T ≠ [] ∧ aeM l T = none := fX fun q => by rw [aL q] at hc18; exact absurd hc18 aC
  iterate 8 refine AX ?_
  have hn : amN l s0 = none := by
   unfold amN; rw [hw]; exact aN hbad
  refine ⟨_, by rw [hn]; rfl, rfl, (fun _ _ _ _ _ _ hr => by rw [hn] at hr; cases hr), ?_, rfl⟩
  show Y.length ≤ s0.length
  omega
 have hbad : ¬ (T ≠ [] ∧ aeM l T = none) := fun q => by rw [aN q] at hc18; exact absurd hc18 aC
 rw [aL hbad]
 iterate 12 refine AX ?_
 refine .p rfl (zC U139 rfl Z31 (tm rfl)) (.p rfl (zC U31 rfl Z9 (tm rfl)) ?_)
 refine AX ?_
 refine .e rfl (zB C101 (evs2 rfl rfl) (takeW l Y _ _ _ _ aA b _ (oS _ _ _) _)) ?_
 rw [sS]
 iterate 3 refine AX ?_
 refine AWP.meet (fun env H2 => ∃ R S, pR l Y = (R, S) ∧ env = [(0, .ptr (some ⟨b, 0, none⟩)), (3, .str A), (4, .str R)] ∧ H2 = H.set b (Wk l ⟨S, neg0, ds0, e0, ⟨bits0, kind0, 0, G, false⟩⟩)) ?_ ?_
 ·iterate 5 refine AX ?_
  refine AWP.cx rfl (fun hc26 => ?_) (fun hc26 => ?_)
  ·have hpr : pR l Y = (abV (Y.drop l.dc.length), aaY (Y.drop l.dc.length)) := by unfold pR; rw [aN hc26]
   rw [abW hc26]
   iterate 2 refine AX ?_
   refine .e rfl (zB C227 (evs1 rfl) (rowW l (Y.drop l.dc.length) _ _ _ _ (by rw [aW]; omega) b _ (oS _ _ _))) ?_
   rw [sS]
   iterate 3 refine AX ?_
   refine Meets.mk (M := fun env H2 => ∃ R S, pR l Y = (R, S) ∧ env = [(0, .ptr (some ⟨b, 0, none⟩)), (3, .str A), (4, .str R)] ∧ H2 = H.set b (Wk l ⟨S, neg0, ds0, e0, ⟨bits0, kind0, 0, G, false⟩⟩)) ⟨_, _, hpr, rfl, rfl⟩ sX (hRa _)
  have hpr : pR l Y = ([], Y) := by unfold pR; rw [aL (by rw [hc26]; decide)]
  rw [adC hc26]
  iterate 2 refine AX ?_
  refine Meets.mk (M := fun env H2 => ∃ R S, pR l Y = (R, S) ∧ env = [(0, .ptr (some ⟨b, 0, none⟩)), (3, .str A), (4, .str R)] ∧ H2 = H.set b (Wk l ⟨S, neg0, ds0, e0, ⟨bits0, kind0, 0, G, false⟩⟩)) ⟨_, _, hpr, rfl, rfl⟩ sX (hRa _)
 rintro _ _ ⟨R, S, hpr, rfl, rfl⟩
 have hpl := cfQ l Y
 rw [hpr] at hpl
 simp only at hpl
 refine AX ?_
 refine AWP.seqTo 34 (.bool (decide (A = []) && decide (R = []))) [0, 3, 4] ?_ ?_
 ·-- region 8
  iterate 4 refine AX ?_
  refine zD (t := 31) rfl (fun hg31 => ?_) (fun hg31 => ?_)
  ·iterate 4 refine AX ?_
   exact ⟨rfl, zO rfl (by (rw [show decide (A = []) = _ from hg31]; rfl)) sX, rfl⟩
  iterate 4 refine AX ?_
  exact ⟨rfl, zO rfl (by (rw [show decide (A = []) = _ from hg31]; rfl)) sX, rfl⟩
 refine AWP.sub [(34, _), (0, _), (3, _), (4, _)] sX ?_
 refine AWP.cx rfl (fun hc34 => ?_) (fun hc34 => ?_)
 ·have hemp : A = [] ∧ R = [] := by simpa using hc34
  iterate 8 refine AX ?_
  have hn : amN l s0 = none := by
   unfold amN; rw [hw]; simp only; rw [aL hbad, hpr]; exact aN hemp
  refine ⟨_, by rw [hn]; rfl, rfl, (fun _ _ _ _ _ _ hr => by rw [hn] at hr; cases hr), ?_, rfl⟩
  show S.length ≤ s0.length
  omega
 have hemp : ¬ (A = [] ∧ R = []) := by intro q; rw [bG q.1, bG q.2] at hc34; cases hc34
 iterate 7 refine AX ?_
 refine .p rfl (zS (tm rfl) (tm rfl) (by rw [zK]; omega)) ?_
 refine AX ?_
 refine .p rfl (zC U139 rfl Z9 (tm rfl)) ?_
 iterate 9 refine AX ?_
 refine .p rfl (zC U139 rfl Z79 (tm rfl)) (.p rfl (zC U79 rfl Z3 (tm rfl)) ?_)
 iterate 10 refine AX ?_
 refine .p rfl (zC U139 rfl Z3 (tm rfl)) ?_
 iterate 4 refine AX ?_
 refine AWP.seqTo 73 (.bool (decide (S = []) || (decide (((S.getD 0 0).toNat : Int) ≠ 101) && decide (((S.getD 0 0).toNat : Int) ≠ 69)))) [0] ?_ ?_
 ·-- region 13
  iterate 3 refine AX ?_
  refine .p rfl (zC U139 rfl Z9 (tm rfl)) ?_
  iterate 3 refine AX ?_
  refine zD (t := 58) rfl (fun hg58 => ?_) (fun hg58 => ?_)
  ·iterate 16 refine AX ?_
   exact ⟨rfl, zO rfl (by (rw [show decide (S = []) = _ from hg58]; rfl)) (zJ rfl yJ), rfl⟩
  iterate 2 refine AX ?_
  refine .gp rfl rfl rfl aB (zC U139 rfl Z9 (tm rfl)) (.gs rfl rfl rfl aB (yD G9 (tm rfl) (oS _ _ _) rfl) ?_)
  rintro _ _ ⟨rfl, hH⟩
  obtain rfl := hH.symm
  refine .gp rfl rfl rfl aB (aaT U9 (tm rfl) zH (by have := bP.2 (of_decide_eq_false hg58); omega) (by have := bP.2 (of_decide_eq_false hg58); omega)) ?_
  iterate 2 refine AX ?_
  refine zD (t := 65) rfl (fun hg65 => ?_) (fun hg65 => ?_)
  ·iterate 2 refine AX ?_
   refine .gp rfl rfl rfl aB (zC U139 rfl Z9 (tm rfl)) (.gs rfl rfl rfl aB (yD G9 (tm rfl) (oS _ _ _) rfl) ?_)
   rintro _ _ ⟨rfl, hH⟩
   obtain rfl := hH.symm
   refine .gp rfl rfl rfl aB (aaT U9 (tm rfl) zH (by have := bP.2 (of_decide_eq_false hg58); omega) (by have := bP.2 (of_decide_eq_false hg58); omega)) ?_
   iterate 4 refine AX ?_
   exact ⟨rfl, zO rfl (by (rw [show decide (S = []) = _ from hg58, show decide (((S.getD 0 0).toNat : Int) ≠ 101) = _ from hg65]; rfl)) (zJ rfl yJ), rfl⟩
  iterate 9 refine AX ?_
  exact ⟨rfl, zO rfl (by (rw [show decide (S = []) = _ from hg58, show decide (((S.getD 0 0).toNat : Int) ≠ 101) = _ from hg65]; rfl)) (zJ rfl yJ), rfl⟩
 refine AWP.sub [(73, _), (0, _)] sX ?_
 refine AWP.cx rfl (fun hc73 => ?_) (fun hc73 => ?_)
 ·have htl : amU l S = some (0, false, S) := by
   unfold amU
   rw [aN]
   simp only [cN, bK, aO] at hc73
   rcases hc73 with h | h
   ·exact .inl h
   exact .inr ⟨fun q => h.1 (by rw [q]; rfl), fun q => h.2 (by rw [q]; rfl)⟩
  iterate 8 refine AX ?_
  have hn : amN l s0 = some (A ++ R, 0 - (R.length : Int), R.length, G, false, S) := by
   unfold amN; rw [hw]; simp only; rw [aL hbad, hpr]; simp only; rw [aL hemp, htl]
  refine ⟨⟨S, neg0, A ++ R, -(R.length : Int), ⟨bits0, kind0, (R.length : Int), G, false⟩⟩, by rw [hn]; rfl, rfl, fun _ _ _ _ _ _ hr => ?_, (by show S.length ≤ s0.length; omega), rfl⟩
  rw [hn] at hr
  simp only [Option.some.injEq, Prod.mk.injEq] at hr
  obtain ⟨rfl, rfl, rfl, rfl, rfl, rfl⟩ := hr
  rw [Int.zero_sub]
 have hc73 : ¬ (S = [] ∨ (S.getD 0 0 ≠ 101 ∧ S.getD 0 0 ≠ 69)) := by
  simp only [cE, bU, aM, dP] at hc73
  rintro (q | q)
  ·exact hc73.1 q
  exact hc73.2.elim (fun h => q.1 (abH (d := 101) (by show _ = 101; omega))) (fun h => q.2 (abH (d := 69) (by show _ = 69; omega)))
 iterate 3 refine AX ?_
 have hsl1 := alH l (S.drop 1)
 have hS1 : 1 ≤ S.length := bP.2 (fun q => hc73 (.inl q))
 have hS2 : (S.drop 1).length = S.length - 1 := aW
 iterate 4 refine AX ?_
 refine .p rfl (zC U139 rfl Z9 (tm rfl)) ?_
 refine AX ?_
 refine .p rfl (adX U9 (tm rfl) zH (by (try dsimp only); omega) (by (try dsimp only); omega)) ?_
 refine AX ?_
 refine .p rfl (zC U139 rfl Z9 (tm rfl)) ?_
 iterate 7 refine AX ?_
 refine .p rfl (zC U139 rfl Z79 (tm rfl)) (.p rfl (zC U79 rfl Z4 (tm rfl)) ?_)
 iterate 6 refine AX ?_
 refine .s rfl (zB call102 (evs1 rfl) (rsignW l (S.drop 1) neg0 (A ++ R) (-(R.length : Int)) ⟨bits0, kind0, (R.length : Int), G, true⟩ (by rw [aW]; omega) b _ (oS _ _ _))) ?_
 rintro _ _ ⟨⟨g1, rfl⟩, hH⟩
 obtain rfl := hH.symm
 rw [sS]
 iterate 10 refine AX ?_
 refine .e rfl (zB C227 (evs1 rfl) (rowW l (yF l (S.drop 1)).1 neg0 (A ++ R) (-(R.length : Int)) ⟨bits0, kind0, (R.length : Int), G, true⟩ aA b _ (oS _ _ _))) ?_
 rw [sS]
 iterate 4 refine AX ?_
 refine AWP.seqTo 99 (.bool (decide ((abV (yF l (S.drop 1)).1) = []) || decide ((9 : Int) < ((abV (yF l (S.drop 1)).1).length : Int)))) [0, 7, 8] ?_ ?_
 ·-- region 19
  iterate 4 refine AX ?_
  refine zD (t := 95) rfl (fun hg95 => ?_) (fun hg95 => ?_)
  ·iterate 5 refine AX ?_
   exact ⟨rfl, zO rfl (by (rw [show decide ((abV (yF l (S.drop 1)).1) = []) = _ from hg95]; rfl)) sX, rfl⟩
  iterate 5 refine AX ?_
  exact ⟨rfl, zO rfl (by (rw [show decide ((abV (yF l (S.drop 1)).1) = []) = _ from hg95]; rfl)) sX, rfl⟩
 refine AWP.sub [(99, _), (0, _), (7, _), (8, _)] sX ?_
 refine AWP.cx rfl (fun hc99 => ?_) (fun hc99 => ?_)
 ·have htl : amU l S = none := by
   unfold amU
   rw [aL hc73, aN]
   simp only [cN, aO] at hc99
   rcases hc99 with h | h
   ·exact .inl h
   exact .inr aA
  iterate 8 refine AX ?_
  have hn : amN l s0 = none := by
   unfold amN; rw [hw]; simp only; rw [aL hbad, hpr]; simp only; rw [aL hemp, htl]
  refine ⟨⟨aaY (yF l (S.drop 1)).1, neg0, A ++ R, -(R.length : Int), ⟨bits0, kind0, (R.length : Int), G, true⟩⟩, by rw [hn]; rfl, rfl, (fun _ _ _ _ _ _ hr => by rw [hn] at hr; cases hr), ?_, rfl⟩
  have hrl := afY (yF l (S.drop 1)).1
  show (aaY (yF l (S.drop 1)).1).length ≤ s0.length
  omega
 simp only [cE, aM] at hc99
 have htl : amU l S = some (if (yF l (S.drop 1)).2 = true then -(num (abV (yF l (S.drop 1)).1) : Int) else (num (abV (yF l (S.drop 1)).1) : Int), true, aaY (yF l (S.drop 1)).1) := by
  unfold amU
  rw [aL hc73, aL (by rintro (q | q); exact hc99.1 q; omega)]
 have hrl := afY (yF l (S.drop 1)).1
 iterate 14 refine AX ?_
 refine AWP.loopW (caB l b (abV (yF l (S.drop 1)).1) (yF l (S.drop 1)).2 (H.set b (Wk l ⟨aaY (yF l (S.drop 1)).1, neg0, A ++ R, -(R.length : Int), ⟨bits0, kind0, (R.length : Int), G, true⟩⟩))) ((abV (yF l (S.drop 1)).1).length) ⟨0, by omega, rfl, rfl, rfl⟩ sX (hRa _) ?_
 rintro _ _ _ ⟨i, hi, rfl, rfl, rfl⟩
 have hdg := agQ (yF l (S.drop 1)).1
 have hn9 := ccT (hdg.take i) (by rw [aS]; omega)
 iterate 9 refine AX ?_
 refine AWP.cx rfl (fun hc103 => ?_) (fun hc103 => ?_)
 ·iterate 4 refine AX ?_
  have hdi := hdg.at (show i < (abV (yF l (S.drop 1)).1).length by omega)
  have hdi2 : 48 ≤ ((abV (yF l (S.drop 1)).1).getD ((i : Nat) : Int).toNat 0).toNat ∧ ((abV (yF l (S.drop 1)).1).getD ((i : Nat) : Int).toNat 0).toNat ≤ 57 := hdi
  iterate 6 refine AX ?_
  refine .p rfl (auH (tm rfl) (zI 48) aA aA) ?_
  iterate 12 refine AX ?_
  have hst := bhX (ds := (abV (yF l (S.drop 1)).1)) (i := i) aA
  have hdi := hdg.at (show i < (abV (yF l (S.drop 1)).1).length by omega)
  refine Round.mk (J := caB l b (abV (yF l (S.drop 1)).1) (yF l (S.drop 1)).2 (H.set b (Wk l ⟨aaY (yF l (S.drop 1)).1, neg0, A ++ R, -(R.length : Int), ⟨bits0, kind0, (R.length : Int), G, true⟩⟩))) ⟨i + 1, by omega, rfl, rfl, rfl⟩ (zJ rfl (zJ rfl (zJ rfl (zN rfl (by rw [hst]; congr 1; rw [show ((i : Int)).toNat = i from rfl]; omega) (zN rfl (by congr 1) yJ))))) (hRa _) aA
 iterate 11 refine AX ?_
 refine AWP.cx rfl (fun hc114 => ?_) (fun hc114 => ?_)
 ·iterate 11 refine AX ?_
  refine .p rfl (zC U139 rfl Z3 (tm rfl)) ?_
  iterate 2 refine AX ?_
  refine .p rfl (acF (tm rfl) (tm rfl) (by (try dsimp only); omega)) ?_
  refine AX ?_
  refine .p rfl (zC U139 rfl Z3 (tm rfl)) ?_
  iterate 10 refine AX ?_
  have hi2 : i = (abV (yF l (S.drop 1)).1).length := by omega
  rw [hi2, dE]
  have hn : amN l s0 = some (A ++ R, (if (yF l (S.drop 1)).2 = true then -(num (abV (yF l (S.drop 1)).1) : Int) else (num (abV (yF l (S.drop 1)).1) : Int)) - (R.length : Int), R.length, G, true, aaY (yF l (S.drop 1)).1) := by
   unfold amN; rw [hw]; simp only; rw [aL hbad, hpr]; simp only; rw [aL hemp, htl]
  refine ⟨⟨aaY (yF l (S.drop 1)).1, neg0, A ++ R, -(R.length : Int) + -(num (abV (yF l (S.drop 1)).1) : Int), ⟨bits0, kind0, (R.length : Int), G, true⟩⟩, by rw [hn]; rfl, rfl, fun _ _ _ _ _ _ hr => ?_, (by show (aaY (yF l (S.drop 1)).1).length ≤ s0.length; omega), rfl⟩
  rw [hn] at hr
  simp only [Option.some.injEq, Prod.mk.injEq] at hr
  obtain ⟨rfl, rfl, rfl, rfl, rfl, rfl⟩ := hr
  rw [aN aB]
  congr 1; omega
 iterate 7 refine AX ?_
 refine .p rfl (zC U139 rfl Z3 (tm rfl)) ?_
 iterate 2 refine AX ?_
 refine .p rfl (acF (tm rfl) (tm rfl) (by (try dsimp only); omega)) ?_
 refine AX ?_
 refine .p rfl (zC U139 rfl Z3 (tm rfl)) ?_
 iterate 10 refine AX ?_
 have hi2 : i = (abV (yF l (S.drop 1)).1).length := by omega
 rw [hi2, dE]
 have hn : amN l s0 = some (A ++ R, (if (yF l (S.drop 1)).2 = true then -(num (abV (yF l (S.drop 1)).1) : Int) else (num (abV (yF l (S.drop 1)).1) : Int)) - (R.length : Int), R.length, G, true, aaY (yF l (S.drop 1)).1) := by
  unfold amN; rw [hw]; simp only; rw [aL hbad, hpr]; simp only; rw [aL hemp, htl]
 refine ⟨⟨aaY (yF l (S.drop 1)).1, neg0, A ++ R, -(R.length : Int) + (num (abV (yF l (S.drop 1)).1) : Int), ⟨bits0, kind0, (R.length : Int), G, true⟩⟩, by rw [hn]; rfl, rfl, fun _ _ _ _ _ _ hr => ?_, (by show (aaY (yF l (S.drop 1)).1).length ≤ s0.length; omega), rfl⟩
 rw [hn] at hr
 simp only [Option.some.injEq, Prod.mk.injEq] at hr
 obtain ⟨rfl, rfl, rfl, rfl, rfl, rfl⟩ := hr
 rw [aL (by rw [hc114]; decide)]
 congr 1; omega

end
section
open Go Go.RowKit

theorem zr79 : ZR 79 [.int .u64 0, .int .i64 0, .int .i64 0, .bool false, .bool false] := ZRi zeroValue79
theorem pl79 : PL 79 [(0, 1), (1, 1), (2, 1), (3, 1), (4, 1)] := PLi U79
theorem zr139 : ZR 139 [.str [], .str [], .str [], .str [], .str [], .str [], .str [], .bool false, .bool false, .int .i64 0, .str [], .bool false, .str [], .int .i64 0, .int .u64 0, .int .i64 0, .int .i64 0, .bool false, .bool false] := ZRi zeroValue139
theorem pl139 : PL 139 [(0, 10), (10, 1), (11, 1), (12, 1), (13, 1), (14, 5)] := PLi U139

open Go.Lib
set_option maxRecDepth 100000
theorem bqY (hl : l.fine) {e : Int} (h : bcG l t d e k gr x) : d.length ≤ t.length := by
 obtain ⟨W, R, E, p, dd, n, rfl, hp, hw, hR, hne, hE, rfl, rfl, rfl⟩ := h
 have h1 : dd.length ≤ W.length := by
  rcases adB hl hw with ⟨_, rfl, _⟩ | ⟨d0, s0, d1, rfl, _, _, hc, rfl, _, _⟩
  ·exact Nat.zero_le _
  have := (hc.len hl).1
  simp only [aP]; omega
 cases p with
 | true => simp only [if_true, aP]; omega
 | false => rw [hp rfl]; simp only [aP, bH]; omega
theorem axH (hl : l.entOk) {T Z : List UInt8} {e : Int} (h : amN l T = some (d, e, k, gr, x, Z)) : Digs d ∧ d.length ≤ T.length ∧ e ≤ 2000000000 ∧ -1000000000 - (T.length : Int) ≤ e ∧ Z.length ≤ T.length := by
 obtain ⟨t, rfl, hO⟩ := axE hl.fine hl.second h
 have h1 := arH (bhY hl.fine hl.grpOk hO)
 have h2 := bqY hl.fine hO
 rw [aP]
 exact ⟨h1.1, by omega, h1.2.2.1, by omega, by omega⟩
theorem arN (s : List UInt8) (n : Nat) : (zT (s.drop n)).length ≤ s.length := bE (aeX _) (by rw [aW]; omega)
theorem buV (s p : List UInt8) : (trimPrefix s p).length ≤ s.length := adR _ _

theorem avS (l : Loc) (hl : l.entOk) (hk : l.ok) (hg : l.grp ≠ []) (s0 : List UInt8) (neg0 : Bool) (ds0 : List UInt8) (e0 : Int) (bits0 : Nat) (hq : s0.length ≤ 1000) (b : Nat) (H : Heap) (hb : H.objs b = some (Wk l ⟨s0, neg0, ds0, e0, ⟨bits0, 0, 0, false, false⟩⟩)) : ACall prog 103 [.ptr (some ⟨b, 0, none⟩)] H (fun y H' => ∃ q' : WkN, y = .bool (aiF l s0).isSome ∧ H' = H.set b (Wk l q') ∧ (∀ kd d e k gr x z, aiF l s0 = some ((kd, d, e, k, gr, x), z) → q' = ⟨z, neg0, d, e, ⟨bits0, kd, (k : Int), gr, x⟩⟩) ∧ q'.s.length ≤ s0.length ∧ q'.neg = neg0) := by
 have hlb := aeX s0
 refine .of_body func103 rfl ntmps103 results103 rfl ?_
 iterate 10 refine AX ?_
 refine .p rfl (zC U139 rfl Z31 (tm rfl)) (.p rfl (zC U31 rfl Z9 (tm rfl)) ?_)
 refine AX ?_
 refine .e rfl (zB C101 (evs2 rfl rfl) (takeW l _ _ _ _ _ (bE hq aC) b _ hb _)) ?_
 iterate 3 refine AX ?_
 refine .meet (fun env H2 => ∃ (s1 : List UInt8) (kd : Int) (F : Bool), hasPrefix s0 l.cur = F ∧ (F = true → s1 = zT (s0.drop l.cur.length) ∧ kd = 2) ∧ (F = false → s1 = s0 ∧ kd = 0) ∧ s1.length ≤ s0.length ∧ env = [(0, .ptr (some ⟨b, 0, none⟩)), (3, .bool F)] ∧ H2 = H.set b (Wk l ⟨s1, neg0, ds0, e0, ⟨bits0, kd, 0, false, false⟩⟩)) ?_ ?_
 ·iterate 5 refine AX ?_
  refine .cx rfl (fun hc15 => ?_) (fun hc15 => ?_)
  ·rw [abW hc15]
   iterate 4 refine AX ?_
   refine .p rfl (zC U139 rfl Z79 (tm rfl)) (.p rfl (zC U79 rfl Z3 (tm rfl)) ?_)
   iterate 5 refine AX ?_
   refine .s rfl (zB C100 (evs1 rfl) (blanksW l (s0.drop l.cur.length) neg0 ds0 e0 ⟨bits0, 2, 0, false, false⟩ (by rw [aW]; omega) b _ (oS _ _ _))) ?_
   rintro _ _ rfl
   rw [sS]
   iterate 2 refine AX ?_
   refine .mk ⟨_, 2, true, hc15, fun _ => ⟨rfl, rfl⟩, (fun q => by cases q), arN _ _, rfl, rfl⟩ (zJ rfl (zN rfl (by rw [hc15]) yJ)) (hRa _)
  rw [adC hc15]
  iterate 2 refine AX ?_
  refine .mk ⟨s0, 0, false, hc15, (fun q => by cases q), fun _ => ⟨rfl, rfl⟩, aT _, rfl, rfl⟩ (zJ rfl (zN rfl (by rw [hc15]) yJ)) (hRa _)
 rintro _ _ ⟨s1, kd, F, hf, h2, h0, hsl, rfl, rfl⟩
 iterate 3 refine AX ?_
 refine .s rfl (zB call170 (evs1 rfl) (avR l hk hl.second hg s1 neg0 ds0 e0 bits0 kd aA b _ (oS _ _ _))) ?_
 rintro _ _ ⟨q1, rfl, hH, hq1, hql, hqn⟩
 obtain rfl := hH.symm
 rw [sS]
 iterate 10 refine AX ?_
 refine .cx rfl (fun hc25 => ?_) (fun hc25 => ?_)
 ·have hnn : amN l s1 = none := by simpa using hc25
  have hn : aiF l s0 = none := by
   cases F with
   | true => obtain ⟨rfl, rfl⟩ := h2 rfl; unfold aiF; rw [aN hf, hnn]
   | false => obtain ⟨rfl, rfl⟩ := h0 rfl; unfold aiF; rw [aL (by rw [hf]; decide), hnn]
  iterate 8 refine AX ?_
  refine ⟨_, by rw [hn]; rfl, rfl, (fun _ _ _ _ _ _ _ hr => by rw [hn] at hr; cases hr), ?_, hqn⟩
  show q1.s.length ≤ s0.length
  omega
 obtain ⟨⟨d, e, k, gr, x, z⟩, hnn⟩ := fU.1 (show (amN l s1).isSome = true by simpa using hc25)
 have hq2 := hq1 _ _ _ _ _ _ hnn
 subst hq2
 obtain ⟨hdd, hdl, he1, he2, hzl⟩ := axH hl hnn
 clear hql hqn hq1
 iterate 8 refine AX ?_
 refine .cx rfl (fun hc26 => ?_) (fun hc26 => ?_)
 ·have hF2 : F = true := hc26
  obtain ⟨rfl, rfl⟩ := h2 hF2
  iterate 8 refine AX ?_
  have hn : aiF l s0 = some ((2, d, e, k, gr, x), z) := by
   unfold aiF; rw [aN (hf.trans hF2), hnn]
  refine ⟨⟨z, neg0, d, e, ⟨bits0, 2, (k : Int), gr, x⟩⟩, by rw [hn]; rfl, rfl, fun _ _ _ _ _ _ _ hr => ?_, ?_, rfl⟩
  ·rw [hn] at hr; simp only [Option.some.injEq, Prod.mk.injEq] at hr; obtain ⟨⟨rfl, rfl, rfl, rfl, rfl, rfl⟩, rfl⟩ := hr; rfl
  show z.length ≤ s0.length; omega
 have hF2 : F = false := hc26
 iterate 3 refine AX ?_
 obtain ⟨h1, rfl⟩ := h0 hF2
 have h1 := h1.symm
 subst h1
 have hF := hf.trans hF2
 have hlz := aeX z
 iterate 3 refine AX ?_
 refine .p rfl (zC U139 rfl Z9 (tm rfl)) ?_
 iterate 7 refine AX ?_
 refine .s rfl (zB C100 (evs1 rfl) (blanksW l z _ _ _ _ aA b _ (oS _ _ _))) ?_
 rintro _ _ rfl
 rw [sS]
 iterate 7 refine AX ?_
 refine .p rfl (zC U139 rfl Z31 (tm rfl)) (.p rfl (zC U31 rfl Z9 (tm rfl)) ?_)
 refine AX ?_
 refine .e rfl (zB C101 (evs2 rfl rfl) (takeW l (zT z) _ _ _ _ aA b _ (oS _ _ _) _)) ?_
 rw [sS]
 iterate 9 refine AX ?_
 refine .cx rfl (fun hc40 => ?_) (fun hc40 => ?_)
 ·rw [abW hc40]
  iterate 4 refine AX ?_
  refine .p rfl (zC U139 rfl Z79 (tm rfl)) (.p rfl (zC U79 rfl Z3 (tm rfl)) ?_)
  iterate 8 refine AX ?_
  refine .p rfl (zC U139 rfl Z3 (tm rfl)) ?_
  refine AX ?_
  refine .p rfl (acW (tm rfl) zH (by (try dsimp only); omega)) ?_
  refine AX ?_
  refine .p rfl (zC U139 rfl Z3 (tm rfl)) ?_
  iterate 11 refine AX ?_
  have hn : aiF l s0 = some ((1, d, e - 2, k, gr, x), (zT z).drop l.pct.length) := by
   unfold aiF; rw [aL (by rw [hF]; decide), hnn]; simp only
   rw [aN hc40]
  refine ⟨⟨(zT z).drop l.pct.length, neg0, d, e - 2, ⟨bits0, 1, (k : Int), gr, x⟩⟩, by rw [hn]; rfl, rfl, fun _ _ _ _ _ _ _ hr => ?_, ?_, rfl⟩
  ·rw [hn] at hr; simp only [Option.some.injEq, Prod.mk.injEq] at hr; obtain ⟨⟨rfl, rfl, rfl, rfl, rfl, rfl⟩, rfl⟩ := hr; rfl
  show ((zT z).drop l.pct.length).length ≤ s0.length; rw [aW]; omega
 rw [adC hc40]
 iterate 7 refine AX ?_
 refine .p rfl (zC U139 rfl Z31 (tm rfl)) (.p rfl (zC U31 rfl Z9 (tm rfl)) ?_)
 refine AX ?_
 refine .e rfl (zB C101 (evs2 rfl rfl) (takeW l (zT z) _ _ _ _ aA b _ (oS _ _ _) _)) ?_
 rw [sS]
 iterate 9 refine AX ?_
 refine .cx rfl (fun hc60 => ?_) (fun hc60 => ?_)
 ·rw [abW hc60]
  iterate 4 refine AX ?_
  refine .p rfl (zC U139 rfl Z79 (tm rfl)) (.p rfl (zC U79 rfl Z3 (tm rfl)) ?_)
  iterate 11 refine AX ?_
  have hn : aiF l s0 = some ((2, d, e, k, gr, x), (zT z).drop l.cur.length) := by
   unfold aiF; rw [aL (by rw [hF]; decide), hnn]; simp only
   rw [aL (by rw [hc40]; decide), aN hc60]
  refine ⟨⟨(zT z).drop l.cur.length, neg0, d, e, ⟨bits0, 2, (k : Int), gr, x⟩⟩, by rw [hn]; rfl, rfl, fun _ _ _ _ _ _ _ hr => ?_, ?_, rfl⟩
  ·rw [hn] at hr; simp only [Option.some.injEq, Prod.mk.injEq] at hr; obtain ⟨⟨rfl, rfl, rfl, rfl, rfl, rfl⟩, rfl⟩ := hr; rfl
  show ((zT z).drop l.cur.length).length ≤ s0.length; rw [aW]; omega
 rw [adC hc60]
 iterate 7 refine AX ?_
 refine .p rfl (zC U139 rfl Z9 (tm rfl)) ?_
 iterate 10 refine AX ?_
 have hn : aiF l s0 = some ((0, d, e, k, gr, x), z) := by
  unfold aiF; rw [aL (by rw [hF]; decide), hnn]; simp only
  rw [aL (by rw [hc40]; decide), aL (by rw [hc60]; decide)]
 refine ⟨⟨z, neg0, d, e, ⟨bits0, 0, (k : Int), gr, x⟩⟩, by rw [hn]; rfl, rfl, fun _ _ _ _ _ _ _ hr => ?_, ?_, rfl⟩
 ·rw [hn] at hr; simp only [Option.some.injEq, Prod.mk.injEq] at hr; obtain ⟨⟨rfl, rfl, rfl, rfl, rfl, rfl⟩, rfl⟩ := hr; rfl
 show z.length ≤ s0.length; omega

def aoI (l : Loc) (s : List UInt8) : EntN × Int := if 1000 < s.length then (EntN.zero, 4) else beW (bcN l s)
theorem byW (hl : l.entOk) {T z : List UInt8} {e : Int} (h : aiF l T = some ((kd, d, e, k, gr, x), z)) : Digs d ∧ d.length ≤ T.length ∧ e ≤ 2000000000 ∧ -1000000002 - (T.length : Int) ≤ e := by
 unfold aiF at h
 split at h
 ·cases hn : amN l (zT (T.drop l.cur.length)) with
  | none => rw [hn] at h; cases h
  | some q =>
   obtain ⟨d2, e2, k2, g2, x2, z2⟩ := q
   rw [hn] at h
   simp only [Option.some.injEq, Prod.mk.injEq] at h
   obtain ⟨⟨rfl, rfl, rfl, rfl, rfl, rfl⟩, rfl⟩ := h
   have h1 := axH hl hn
   have h2 := arN T l.cur.length
   exact ⟨h1.1, by omega, h1.2.2.1, by omega⟩
 cases hn : amN l T with
 | none => rw [hn] at h; cases h
 | some q =>
  obtain ⟨d2, e2, k2, g2, x2, z2⟩ := q
  rw [hn] at h
  have h1 := axH hl hn
  simp only at h
  split at h
  ·simp only [Option.some.injEq, Prod.mk.injEq] at h
   obtain ⟨⟨rfl, rfl, rfl, rfl, rfl, rfl⟩, rfl⟩ := h
   exact ⟨h1.1, h1.2.1, by omega, by omega⟩
  split at h <;> (simp only [Option.some.injEq, Prod.mk.injEq] at h; obtain ⟨⟨rfl, rfl, rfl, rfl, rfl, rfl⟩, rfl⟩ := h; exact ⟨h1.1, h1.2.1, by omega, by omega⟩)
theorem buA (hl : l.entOk) {s s2 s3 : List UInt8} {O ok : Bool} {q1 : WkN} (hs : (zT s2).length ≤ 1000) (hO : hasPrefix (zT s) [40] = O) (hO1 : O = true → s2 = (zT s).drop 1 ∧ neg = true) (hO2 : O = false → yF l (zT s) = (s2, neg))
  (hO3 : O = true → ok = ((aiF l (zT s2)).isSome && hasPrefix (zT q1.s) [41]) ∧ s3 = zT (trimPrefix (zT q1.s) [41])) (hO4 : O = false → ok = (aiF l (zT s2)).isSome ∧ s3 = zT q1.s)
  (hq1 : ∀ kd d e k gr x z, aiF l (zT s2) = some ((kd, d, e, k, gr, x), z) → q1 = ⟨z, neg, d, e, ⟨0, kd, (k : Int), gr, x⟩⟩) :
  ((!ok || decide (s3 ≠ [])) = false → ∃ (z : List UInt8) (kd : Int) (d : List UInt8) (e : Int) (k : Nat) (gr x : Bool), bcN l s = some (neg, kd, d, e, k, gr, x) ∧ q1 = ⟨z, neg, d, e, ⟨0, kd, (k : Int), gr, x⟩⟩ ∧ s3 = [] ∧ Digs d ∧ d.length ≤ 1000 ∧ -3000000000 ≤ e ∧ e ≤ 2000000000) ∧ ((!ok || decide (s3 ≠ [])) = true → bcN l s = none) := by
 cases ha : aiF l (zT s2) with
 | none =>
  have hok : ok = false := by
   rw [ha] at hO3 hO4
   cases O with
   | true => rw [(hO3 rfl).1]; rfl
   | false => rw [(hO4 rfl).1]; rfl
  rw [hok]
  refine ⟨(fun h => by cases h), fun _ => ?_⟩
  unfold bcN
  cases O with
  | true => rw [aN hO, ← (hO1 rfl).1, ha]
  | false => rw [aL (by rw [hO]; decide), hO2 rfl]; simp only; rw [ha]
 | some r =>
  obtain ⟨⟨kd, d, e, k, gr, x⟩, z⟩ := r
  have hq := hq1 _ _ _ _ _ _ _ ha
  have hrg := byW hl ha
  subst hq
  rw [ha] at hO3 hO4
  simp only [Option.isSome_some, Bool.true_and] at hO3 hO4
  have key : (bcN l s = if ok = true ∧ s3 = [] then some (neg, kd, d, e, k, gr, x) else none) := by
   unfold bcN
   cases O with
   | true =>
    obtain ⟨h1, h2⟩ := hO3 rfl
    rw [aN hO, ← (hO1 rfl).1, ha]
    simp only
    rw [h1, h2, (hO1 rfl).2]
    cases hp : hasPrefix (zT z) [41] with
    | true => rw [abW hp]; rfl
    | false => rw [aL (fun q => by cases q.1), aL (fun q => by cases q.1)]
   | false =>
    obtain ⟨h1, h2⟩ := hO4 rfl
    rw [aL (by rw [hO]; decide), hO2 rfl]
    simp only
    rw [ha]
    simp only
    rw [h1, h2]
    by_cases hz : zT z = []
    ·rw [aN hz, aN ⟨rfl, hz⟩]
    rw [aL hz, aL (fun q => hz q.2)]
  rw [key]
  constructor
  ·intro h
   simp only [cE, eH, aM, dP] at h
   rw [aN h]
   exact ⟨z, kd, d, e, k, gr, x, rfl, rfl, h.2, hrg.1, by omega, by omega, by omega⟩
  intro h
  rw [aL]
  rintro ⟨q1, q2⟩
  rw [q1, q2] at h
  simp at h
theorem cgD {e : Int} (h : (mkN neg d e).2 ≠ 0) : beW (some (neg, kd, d, e, k, gr, x)) = (EntN.zero, 2) := aN h
theorem cgE {e : Int} {y : Nat} (hy : y = aiX (mkN neg d e).1.1 (mkN neg d e).1.2.1 (mkN neg d e).1.2.2) (h : ¬ (mkN neg d e).2 ≠ 0) : beW (some (neg, kd, d, e, k, gr, x)) = if zV y = 3 then (EntN.zero, 2) else (⟨y, kd, k, gr, x⟩, 0) := by
 unfold beW
 simp only
 rw [aL h, hy]

theorem azV (l : Loc) (hl : l.entOk) (hk : l.ok) (hg : l.grp ≠ []) (s : List UInt8) (hs : s.length ≤ 2000) : Fn 39 [.str s, rL l] (.tuple [.agg (aoI l s).1.cs, .int .i64 (aoI l s).2]) := by
 intro H
 have hlb := aeX s
 refine .of_body func39 rfl ntmps39 results39 rfl ?_
 iterate 3 refine AX ?_
 refine .al zr79 (fun b4 hb4 => ?_)
 iterate 11 refine AX ?_
 refine .cx rfl (fun hc16 => ?_) (fun hc16 => ?_)
 ·have hen : aoI l s = (EntN.zero, 4) := by unfold aoI; rw [aJ]
  iterate 2 refine AX ?_
  refine .p rfl (yB zr79 pl79 .nil rfl) ?_
  iterate 4 refine AX ?_
  refine .frz (t := 4) rfl (hb4) ?_
  iterate 3 refine AX ?_
  rw [hen]; exact ⟨rfl, rfl⟩
 have hs1 : s.length ≤ 1000 := by omega
 have hen : aoI l s = beW (bcN l s) := by unfold aoI; rw [aI]
 iterate 6 refine AX ?_
 refine .p rfl (yB zr139 pl139 (.cons (tm rfl) (.inr ⟨_, rfl⟩) (.cons (tm rfl) (.inl rfl) .nil)) rfl) (.s rfl (alF (tm rfl) (.inr ⟨_, rfl⟩)) ?_)
 rintro _ _ ⟨b21, hb21, rfl, hH⟩
 obtain rfl := hH.symm
 have hn4_21 := Heap.ne_of (oS _ _ _) hb21
 iterate 6 refine AX ?_
 refine .s rfl (zB C100 (evs1 rfl) (blanksW l s false [] 0 ⟨0, 0, 0, false, false⟩ hs b21 _ (oS _ _ _))) ?_
 rintro _ _ rfl
 rw [sS]
 iterate 5 refine AX ?_
 refine .e rfl (zB C101 (.cons (tm rfl) (.cons (zR rfl) .nil)) (takeW l (zT s) _ _ _ _ aA b21 _ (oS _ _ _) _)) ?_
 rw [sS]
 iterate 3 refine AX ?_
 refine .meet (fun env H2 => ∃ (s2 : List UInt8) (neg O : Bool), hasPrefix (zT s) [40] = O ∧ (O = true → s2 = (zT s).drop 1 ∧ neg = true) ∧ (O = false → yF l (zT s) = (s2, neg)) ∧ s2.length ≤ s.length ∧ env = [(4, .ptr (some ⟨b4, 0, none⟩)), (5, .int .i64 0), (6, .ptr (some ⟨b21, 0, none⟩)), (7, .bool O)] ∧ H2 = (H.set b4 (.box 79 (EntN.cs EntN.zero))).set b21 (Wk l ⟨s2, neg, [], 0, ⟨0, 0, 0, false, false⟩⟩)) ?_ ?_
 ·iterate 5 refine AX ?_
  refine .cx rfl (fun hc26 => ?_) (fun hc26 => ?_)
  ·rw [abW hc26]
   iterate 3 refine AX ?_
   refine .p rfl (zC U139 rfl Z4 (tm rfl)) ?_
   iterate 3 refine AX ?_
   refine .mk ⟨_, true, true, hc26, fun _ => ⟨rfl, rfl⟩, (fun q => by cases q), (by rw [aW]; omega), rfl, rfl⟩ (zJ rfl (zJ rfl (zJ rfl (zN rfl (by rw [hc26]) yJ)))) (hRa _)
  rw [adC hc26]
  iterate 3 refine AX ?_
  refine .s rfl (zB call102 (evs1 rfl) (rsignW l (zT s) false [] 0 ⟨0, 0, 0, false, false⟩ aA b21 _ (oS _ _ _))) ?_
  rintro _ _ ⟨⟨g1, rfl⟩, hH⟩
  obtain rfl := hH.symm
  rw [sS]
  iterate 11 refine AX ?_
  refine .p rfl (zC U139 rfl Z4 (tm rfl)) ?_
  iterate 3 refine AX ?_
  refine .mk ⟨(yF l (zT s)).1, (yF l (zT s)).2, false, hc26, (fun q => by cases q), fun _ => rfl, (by have := alH l (zT s); omega), rfl, rfl⟩ (zJ rfl (zJ rfl (zJ rfl (zN rfl (by rw [hc26]) yJ)))) (hRa _)
 rintro _ _ ⟨s2, neg, O, hO, hO1, hO2, hs2l, rfl, rfl⟩
 have hl2 := aeX s2
 iterate 3 refine AX ?_
 refine .s rfl (zB C100 (evs1 rfl) (blanksW l s2 _ _ _ _ aA b21 _ (oS _ _ _))) ?_
 rintro _ _ rfl
 rw [sS]
 iterate 5 refine AX ?_
 refine .s rfl (zB call103 (evs1 rfl) (avS l hl hk hg (zT s2) neg [] 0 0 aA b21 _ (oS _ _ _))) ?_
 rintro _ _ ⟨q1, rfl, hH, hq1, hql, hqn⟩
 obtain rfl := hH.symm
 rw [sS]
 have hlq := aeX q1.s
 iterate 6 refine AX ?_
 refine .s rfl (zB C100 (evs1 rfl) (blanksW l q1.s q1.neg q1.digits q1.exp q1.out aA b21 _ (oS _ _ _))) ?_
 rintro _ _ rfl
 rw [sS]
 iterate 2 refine AX ?_
 refine .meet (fun env H2 => ∃ (s3 : List UInt8) (ok : Bool), (O = true → ok = ((aiF l (zT s2)).isSome && hasPrefix (zT q1.s) [41]) ∧ s3 = zT (trimPrefix (zT q1.s) [41])) ∧ (O = false → ok = (aiF l (zT s2)).isSome ∧ s3 = zT q1.s) ∧ env = [(4, .ptr (some ⟨b4, 0, none⟩)), (5, .int .i64 0), (6, .ptr (some ⟨b21, 0, none⟩)), (10, .bool ok)] ∧ H2 = (H.set b4 (.box 79 (EntN.cs EntN.zero))).set b21 (Wk l ⟨s3, neg, q1.digits, q1.exp, q1.out⟩)) ?_ ?_
 ·iterate 5 refine AX ?_
  refine .cx rfl (fun hc45 => ?_) (fun hc45 => ?_)
  ·iterate 3 refine AX ?_
   refine .e rfl (zB C101 (.cons (tm rfl) (.cons (zR rfl) .nil)) (takeW l (zT q1.s) q1.neg q1.digits q1.exp q1.out aA b21 _ (oS _ _ _) _)) ?_
   rw [sS]
   iterate 3 refine AX ?_
   refine .seqTo 10 (.bool ((aiF l (zT s2)).isSome && hasPrefix (zT q1.s) [41])) [4, 5, 6] ?_ ?_
   ·-- region 15
    iterate 3 refine AX ?_
    refine zD (t := 49) rfl (fun hg49 => ?_) (fun hg49 => ?_)
    ·iterate 4 refine AX ?_
     exact ⟨rfl, zO rfl aH sX, rfl⟩
    iterate 4 refine AX ?_
    exact ⟨rfl, zO rfl aH sX, rfl⟩
   refine .sub [(10, _), (4, _), (5, _), (6, _)] sX ?_
   iterate 2 refine AX ?_
   refine .s rfl (zB C100 (evs1 rfl) (blanksW l (trimPrefix (zT q1.s) [41]) q1.neg q1.digits q1.exp q1.out (by have := buV (zT q1.s) [41]; omega) b21 _ (oS _ _ _))) ?_
   rintro _ _ rfl
   rw [sS]
   iterate 2 refine AX ?_
   refine .mk ⟨_, _, fun _ => ⟨rfl, rfl⟩, (fun q => by rw [q] at hc45; cases hc45), rfl, rfl⟩ sX (by rw [← hqn]; exact hRa _)
  iterate 2 refine AX ?_
  refine .mk ⟨_, _, (fun q => by rw [q] at hc45; cases hc45), fun _ => ⟨rfl, rfl⟩, rfl, rfl⟩ sX (by rw [← hqn]; exact hRa _)
 rintro _ _ ⟨s3, ok, hO3, hO4, rfl, rfl⟩
 have hacc := buA hl aA hO hO1 hO2 hO3 hO4 hq1
 refine AX ?_
 refine .seqTo 62 (.bool (!ok || decide (s3 ≠ []))) [4, 5, 6] ?_ ?_
 ·-- region 17
  iterate 4 refine AX ?_
  refine zD (t := 56) rfl (fun hg56 => ?_) (fun hg56 => ?_)
  ·iterate 7 refine AX ?_
   exact ⟨rfl, zO rfl (by (simp [*]; done)) sX, rfl⟩
  iterate 2 refine AX ?_
  refine .gp rfl rfl rfl aB (zC U139 rfl Z9 (tm rfl)) (.gs rfl rfl rfl aB (yD G9 (tm rfl) (oS _ _ _) rfl) ?_)
  rintro _ _ ⟨rfl, hH⟩
  obtain rfl := hH.symm
  iterate 3 refine AX ?_
  exact ⟨rfl, zO rfl (by (simp [*]; done)) sX, rfl⟩
 refine .sub [(62, _), (4, _), (5, _), (6, _)] sX ?_
 refine .cx rfl (fun hc62 => ?_) (fun hc62 => ?_)
 ·rw [hacc.2 hc62] at hen
  iterate 2 refine AX ?_
  refine .p rfl (yB zr79 pl79 .nil rfl) ?_
  iterate 4 refine AX ?_
  refine .dropb (hb21) ?_
  refine .frz (t := 4) rfl (hb4) ?_
  iterate 3 refine AX ?_
  rw [hen]; exact ⟨rfl, rfl⟩
 obtain ⟨z, kd, d, e, k, gr, x, hac, hq2, rfl, hdd, hdl, he1, he2⟩ := hacc.1 hc62
 subst hq2
 rw [hac] at hen
 have hrb : (bcK (mkN neg d e).1.1 (mkN neg d e).1.2.1 (mkN neg d e).1.2.2) = aiX (mkN neg d e).1.1 (mkN neg d e).1.2.1 (mkN neg d e).1.2.2 := bpW (ajJ hdd)
 have hbt : (bcK (mkN neg d e).1.1 (mkN neg d e).1.2.1 (mkN neg d e).1.2.2) < 18446744073709551616 := by rw [hrb]; exact ayG _ _ _
 iterate 3 refine AX ?_
 refine .drawI (fun H2 => H2.objs b21 = some (Wk l ⟨[], neg, d, e, ⟨0, kd, (k : Int), gr, x⟩⟩)) [(0, true), (1, true), (2, true), (3, true), (4, true), (5, true), (6, true), (7, true), (8, true), (9, true), (10, true), (11, true), (12, true), (13, true), (14, true), (15, true), (16, false), (17, false), (18, true)] (by exact oS _ _ _) rfl aE ?_
 iterate 2 refine AX ?_
 refine .p rfl rfl (zC U139 rfl Z4 (tm rfl)) ?_
 refine .f rfl rfl (fun _ hI => yD G4 (tm rfl) (hI) rfl) ?_
 iterate 2 refine AX ?_
 refine .p rfl rfl (zC U139 rfl Z9 (tm rfl)) ?_
 refine .f rfl rfl (fun _ hI => yD G9 (tm rfl) (hI) rfl) ?_
 iterate 2 refine AX ?_
 refine .p rfl rfl (zC U139 rfl Z3 (tm rfl)) ?_
 refine .f rfl rfl (fun _ hI => yD G3 (tm rfl) (hI) rfl) ?_
 refine .f rfl rfl (fun _ hI => zB C104 (evs3 rfl rfl rfl) (ahN neg d e hdd aA (by constructor <;> omega) _)) ?_
 iterate 3 refine AX ?_
 refine .s rfl rfl (agJ zr58) ?_
 rintro _ _ ⟨b12, hb12, rfl, hH⟩
 obtain rfl := hH.symm
 have hn4_12 := Heap.ne_of (oS _ _ _) hb12
 have hn21_12 := Heap.ne_of (oS _ _ _) hb12
 refine ⟨by first | exact (oN _ _ aB).trans (oS _ _ _) | skip, ?_⟩
 refine .s0 rfl (zP Z58 (tm rfl) (tm rfl) rfl rfl (.inr ⟨_, rfl⟩) (oS _ _ _) (lB rfl)) ?_
 rintro _ _ ⟨rfl, hH⟩
 obtain rfl := hH.symm
 try first | rw [sS] | rw [sU aB]
 refine ⟨by first | exact (oN _ _ aB).trans (oS _ _ _) | skip, ?_⟩
 iterate 3 refine AX ?_
 refine .frz (t := 12) rfl (hb12) ?_
 iterate 7 refine AX ?_
 refine .cx rfl (fun hc81 => ?_) (fun hc81 => ?_)
 ·have hm0 : (mkN neg d e).2 ≠ 0 := by simpa using hc81
  rw [cgD hm0] at hen
  iterate 2 refine AX ?_
  refine .p rfl (yB zr79 pl79 .nil rfl) ?_
  iterate 4 refine AX ?_
  refine .dropb (hb21) ?_
  refine .frz (t := 4) rfl (hb4) ?_
  iterate 3 refine AX ?_
  rw [hen]; exact ⟨rfl, rfl⟩
 have hm0 : ¬ (mkN neg d e).2 ≠ 0 := by simpa using hc81
 rw [cgE hrb hm0] at hen
 iterate 6 refine AX ?_
 refine .cl rfl call29 (evs1 rfl) (azW (mkN neg d e).1.1 (mkN neg d e).1.2.1 (mkN neg d e).1.2.2 (ajJ hdd) (by have := caJ neg d e; omega) _) ?_
 refine AX ?_
 refine .p rfl (zC U139 rfl Z79 (tm rfl)) (.p rfl (zC U79 rfl Z22 (tm rfl)) ?_)
 iterate 8 refine AX ?_
 refine .p rfl (zC U139 rfl Z79 (tm rfl)) (.p rfl (zC U79 rfl Z22 (tm rfl)) ?_)
 refine AX ?_
 refine .cl rfl C25 (evs1 rfl) (afJ (bcK (mkN neg d e).1.1 (mkN neg d e).1.2.1 (mkN neg d e).1.2.2) hbt _) ?_
 iterate 3 refine AX ?_
 refine .cx rfl (fun hc95 => ?_) (fun hc95 => ?_)
 ·have hk3 : zV (bcK (mkN neg d e).1.1 (mkN neg d e).1.2.1 (mkN neg d e).1.2.2) = 3 := by omega
  rw [aN hk3] at hen
  iterate 2 refine AX ?_
  refine .p rfl (yB zr79 pl79 .nil rfl) ?_
  iterate 4 refine AX ?_
  refine .dropb (hb21) ?_
  refine .frz (t := 4) rfl (hb4) ?_
  iterate 3 refine AX ?_
  rw [hen]; exact ⟨rfl, rfl⟩
 have hk3 : ¬ zV (bcK (mkN neg d e).1.1 (mkN neg d e).1.2.1 (mkN neg d e).1.2.2) = 3 := by omega
 rw [aL hk3] at hen
 iterate 6 refine AX ?_
 refine .p rfl (zC U139 rfl Z79 (tm rfl)) ?_
 iterate 5 refine AX ?_
 refine .dropb (fS hb21 _) ?_
 refine .frz (t := 4) rfl (hb4) ?_
 iterate 2 refine AX ?_
 rw [hen]; exact ⟨rfl, rfl⟩

end
end Go.Proofs.YtmmgbnolccpjoaaGreatDoor
