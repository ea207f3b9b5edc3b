import Derived.Test.YtfkeflcdadlmdaaGreatDoorU3
import Derived.Test.YtfkeflcdadlmdaaGreatDoorB1
import Derived.Test.YtfkeflcdadlmdaaGreatDoorS6
import Derived.Test.YtfkeflcdadlmdaaGreatDoorX2
import Derived.Test.YtfkeflcdadlmdaaGreatDoorSsk
namespace Go.Proofs.YtfkeflcdadlmdaaGreatDoor
open Go Go.RowKit Go.Lib

theorem yU {c : UInt8} {r s : List UInt8} (h : s.head? ≠ some c) : hasPrefix s (c :: r) = false := by
 unfold hasPrefix
 cases s with
 | nil => rfl
 | cons b t =>
  have : c ≠ b := fun e => h (by rw [e]; rfl)
  simp [List.isPrefixOf, this]
theorem afT {c : UInt8} {r : List UInt8} : ∀ {s : List UInt8}, c ∉ s → index s (c :: r) = -1
 | [], _ => rfl
 | b :: t, h => by
  have h1 := yU (c := c) (r := r) (s := b :: t) (fun e => h (by injection e with e; rw [e]; simp))
  have h2 := afT (c := c) (r := r) (s := t) (fun q => h (by simp [q]))
  unfold hasPrefix at h1
  unfold index
  rw [h1, h2]; rfl
theorem apF {c : UInt8} {r z : List UInt8} : ∀ {w : List UInt8}, c ∉ w → index (w ++ (c :: r) ++ z) (c :: r) = (w.length : Int)
 | [], _ => by
  show index (c :: (r ++ z)) (c :: r) = 0
  unfold index
  rw [if_pos (by simp [List.isPrefixOf])]
 | b :: t, h => by
  have h1 := yU (c := c) (r := r) (s := b :: (t ++ (c :: r) ++ z)) (fun e => h (by injection e with e; rw [e]; simp))
  have h2 := apF (c := c) (r := r) (z := z) (w := t) (fun q => h (by simp [q]))
  unfold hasPrefix at h1
  show index (b :: (t ++ (c :: r) ++ z)) (c :: r) = _
  unfold index
  rw [h1, h2, if_neg (by decide)]
  rw [if_neg (by rw [beq_iff_eq]; omega), List.length_cons]; omega
theorem ayI {old new s : List UInt8} (h : index s old = -1) : ∀ k, replaceK old new k s = s
 | 0 => rfl
 | k + 1 => by rw [replaceK, if_pos (by rw [h]; rfl)]
theorem agZ {old new s : List UInt8} (h : index s old = -1) : replaceAll s old new = s := by
 unfold replaceAll replace
 split
 ·rfl
 ·exact ayI h _
theorem eAt_none {s : List UInt8} (h : (69 : UInt8) ∉ s) (h2 : (101 : UInt8) ∉ s) : eAt s = -1 := by
 unfold eAt
 rw [agZ (afT h), ← index_one, afT h2]
theorem cut_none {c : UInt8} {r s : List UInt8} (h : c ∉ s) : cut s (c :: r) = (s, [], false) := by
 unfold cut
 rw [afT h, if_neg (by decide)]
theorem cut_some {c : UInt8} {r w z : List UInt8} (h : c ∉ w) : cut (w ++ (c :: r) ++ z) (c :: r) = (w, z, true) := by
 unfold cut
 rw [apF h, if_pos (by omega)]
 have e1 : (w ++ (c :: r) ++ z).take w.length = w := by rw [List.append_assoc, List.take_left]
 have e2 : (w ++ (c :: r) ++ z).drop (w.length + (c :: r).length) = z := by rw [show w.length + (c :: r).length = (w ++ (c :: r)).length by simp]; exact List.drop_left
 rw [Int.toNat_natCast, e1, e2]
theorem acZ {s : List UInt8} {c : UInt8} (hd : Digs s) (hc : ¬ isD c) : c ∉ s := fun h => hc (hd c h)
theorem beW {s : List UInt8} (hd : Digs s) : qZ acW s.length s = [] := (adF s.length s (Nat.le_refl _)).2 hd
structure Loc.fine (l : Loc) : Prop where
 dc : ∃ c, l.dc = [c] ∧ ¬ isD c ∧ c ≠ 69 ∧ c ≠ 101
 grp : ∃ c r, l.grp = c :: r ∧ ¬ isD c ∧ (∀ d, l.dc = [d] → c ≠ d)
 minus : ∃ c r, l.minus = c :: r ∧ ¬ isD c ∧ c ≠ 43 ∧ c ≠ 40 ∧ (c = 45 → r = []) ∧ ∀ z, yC (decodeL (l.minus ++ z)).1 = false
 cur : ∃ c r, l.cur = c :: r ∧ ¬ isD c ∧ ¬ isD ((c :: r).getD r.length 0)
 pct : l.pct = [37]
theorem notD {c : UInt8} (h : c.toNat < 48 ∨ 57 < c.toNat) : ¬ isD c := fun q => by unfold isD at q; omega
theorem minus_sv (z : List UInt8) : yC (decodeL (([226, 136, 146] : List UInt8) ++ z)).1 = false := by
 have : decodeL (([226, 136, 146] : List UInt8) ++ z) = (8722, 3) := by
  rw [decodeL_N]
  simp only [List.cons_append, List.nil_append, List.getD_cons_zero, List.getD_cons_succ, List.length_cons]
  unfold decodeN
  simp
 rw [this]; decide
theorem minus_hy (z : List UInt8) : yC (decodeL (([45] : List UInt8) ++ z)).1 = false := by
 have : decodeL (([45] : List UInt8) ++ z) = (45, 1) := by rw [decodeL_N]; exact decodeN_ascii _ _ _ _ _ (show (45 : UInt8).toNat < 128 by decide)
 rw [this]; decide
theorem beA : ∀ l ∈ locs, l.fine := by
 intro l hl
 simp only [locs, List.mem_cons, List.not_mem_nil, or_false] at hl
 rcases hl with rfl | rfl | rfl | rfl | rfl | rfl
 all_goals exact { dc := ⟨_, rfl, notD (by decide), by decide, by decide⟩, grp := ⟨_, _, rfl, notD (by decide), fun d hd => by injection hd with hd; subst hd; decide⟩, minus := ⟨_, _, rfl, notD (by decide), by decide, by decide, by decide, by first | exact minus_hy | exact minus_sv⟩, cur := ⟨_, _, rfl, notD (by decide), notD (by decide)⟩, pct := rfl }
theorem aeK {c : UInt8} {t : List UInt8} (h : isD c) : decodeL (c :: t) = (c.toNat, 1) := by
 rw [decodeL_N]; exact decodeN_ascii _ _ _ _ _ (show c.toNat < 128 by unfold isD at h; omega)
theorem acK {c : UInt8} (h : isD c) : yC c.toNat = false := by
 unfold isD at h
 unfold yC
 simp only [Bool.or_eq_false_iff, beq_eq_false_iff_ne]
 omega
theorem acC {s : List UInt8} (h : s = [] ∨ yC (decodeL s).1 = false) (f : Nat) : qZ yC f s = s := by
 cases f with
 | zero => rfl
 | succ f =>
  by_cases h0 : s = []
  ·subst h0; exact ahZ _ _
  ·rcases h with h | h
   ·exact absurd h h0
   ·rw [agG _ _ h0, if_neg (by rw [h]; decide)]
theorem amQ {s : List UInt8} (h : isD (s.getD (s.length - 1) 0)) (f : Nat) : aaK yC f s = s := by
 cases f with
 | zero => rfl
 | succ f =>
  by_cases h0 : s = []
  ·subst h0; exact abQ _ _
  ·rw [aeN _ _ h0]
   have hr : decodeLastL s = ((s.getD (s.length - 1) 0).toNat, 1) := by
    unfold decodeLastL
    rw [if_neg h0, if_pos (by have := h; unfold isD at this; omega)]
   rw [hr, if_neg (by rw [acK h]; decide)]
theorem ajW {s : List UInt8} (h : s = [] ∨ yC (decodeL s).1 = false) (h2 : isD (s.getD (s.length - 1) 0)) : qV yC s = s := by
 unfold qV
 rw [acC h, amQ h2]
theorem arO {p s : List UInt8} (hp : p ≠ []) (h : p.getD (p.length - 1) 0 ≠ s.getD (s.length - 1) 0) : hasSuffix s p = false := by
 unfold hasSuffix
 rw [Bool.eq_false_iff]
 intro q
 rw [List.isSuffixOf_iff_suffix] at q
 obtain ⟨t, rfl⟩ := q
 apply h
 have hl := List.length_pos_iff.2 hp
 rw [List.getD_eq_getElem?_getD, List.getD_eq_getElem?_getD, List.getElem?_append_right (by rw [List.length_append]; omega), List.length_append, show t.length + p.length - 1 - t.length = p.length - 1 by omega]
theorem abR {a b : List UInt8} (h : b ≠ []) : (a ++ b).getD ((a ++ b).length - 1) 0 = b.getD (b.length - 1) 0 := by
 have hl := List.length_pos_iff.2 h
 rw [List.getD_eq_getElem?_getD, List.getD_eq_getElem?_getD, List.getElem?_append_right (by rw [List.length_append]; omega), List.length_append, show a.length + b.length - 1 - a.length = b.length - 1 by omega]
theorem ahS {b : List UInt8} (hd : Digs b) (h : b ≠ []) : isD (b.getD (b.length - 1) 0) := by
 have hl := List.length_pos_iff.2 h
 rw [List.getD_eq_getElem?_getD, List.getElem?_eq_getElem (by omega)]
 exact hd _ (List.getElem_mem _)
theorem alW (c : UInt8) (s : List UInt8) : ∀ a, (List.replicate a c ++ s).dropWhile (· == c) = s.dropWhile (· == c)
 | 0 => rfl
 | a + 1 => by
  rw [List.replicate_succ, List.cons_append, List.dropWhile_cons, if_pos (by simp)]; exact alW c s a
theorem awU {c x : UInt8} {s : List UInt8} (h : x ≠ c) : (x :: s).dropWhile (· == c) = x :: s := by
 rw [List.dropWhile_cons, if_neg (by simpa using h)]
theorem bbK {c : UInt8} {s : List UInt8} (hn : s ≠ []) (h : s.getD (s.length - 1) 0 ≠ c) (b : Nat) : trimRightB (s ++ List.replicate b c) c = s := by
 have hl := List.length_pos_iff.2 hn
 unfold trimRightB
 rw [List.reverse_append, List.reverse_replicate, alW]
 obtain ⟨x, q, hx⟩ : ∃ x q, s.reverse = x :: q := by
  cases hs : s.reverse with
  | nil => exact absurd (List.reverse_eq_nil_iff.1 hs) hn
  | cons x q => exact ⟨x, q, rfl⟩
 have hxc : x ≠ c := by
  have : s.getD (s.length - 1) 0 = x := by
   have h2 : s = q.reverse ++ [x] := by rw [← List.reverse_reverse s, hx, List.reverse_cons]
   rw [h2, List.getD_eq_getElem?_getD]; simp
  rw [← this]; exact h
 rw [hx, awU hxc, ← hx, List.reverse_reverse]
theorem auB {neg : Bool} {ds : List UInt8} {e e' : Int} (hr : qG ds e = true) (hn : ds ≠ []) (a b : Nat) (he : e' + b = e) : mkN neg (List.replicate a 48 ++ (ds ++ List.replicate b 48)) e' = ((neg, ds, e), 0) := by
 have hr2 := hr
 unfold qG at hr2
 rw [if_neg hn] at hr2
 simp only [Bool.and_eq_true, decide_eq_true_eq, Bool.not_eq_true', decide_eq_false_iff_not] at hr2
 obtain ⟨⟨⟨⟨⟨h1, h2⟩, h3⟩, h4⟩, h5⟩, h6⟩ := hr2
 have hlong : arH (List.replicate a 48 ++ (ds ++ List.replicate b 48)) = ds ++ List.replicate b 48 := by
  unfold arH
  rw [alW]
  match ds, hn, h5 with
  | x :: q, _, h5 => exact awU (by simpa using h5)
 have hcore : acV (List.replicate a 48 ++ (ds ++ List.replicate b 48)) = ds := by
  unfold acV
  rw [hlong]; exact bbK hn h6 b
 have hmore : amL (List.replicate a 48 ++ (ds ++ List.replicate b 48)) = b := by
  unfold amL
  rw [hlong, hcore, List.length_append, List.length_replicate]; omega
 unfold mkN
 rw [hcore, if_neg hn, if_pos (by unfold okD; rw [hcore, hmore]; omega), hmore, he]
theorem aiC {neg : Bool} {ds : List UInt8} {e : Int} (hr : qG ds e = true) (hs : (qM ds ((ds.length : Int) + e)).2 = true) :
  Digs (qM ds ((ds.length : Int) + e)).1.1 ∧ (qM ds ((ds.length : Int) + e)).1.1 ≠ [] ∧ Digs (qM ds ((ds.length : Int) + e)).1.2 ∧
  mkN neg ((qM ds ((ds.length : Int) + e)).1.1 ++ (qM ds ((ds.length : Int) + e)).1.2) (-((qM ds ((ds.length : Int) + e)).1.2.length : Int)) = ((neg, ds, e), 0) := by
 have hd := qP hr
 have h48 : isD 48 := by unfold isD; decide
 by_cases hn : ds = []
 ·subst hn
  have he : e = 0 := by simpa [qG] using hr
  subst he
  refine ⟨?_, ?_, ?_, ?_⟩
  ·exact Digs.one h48
  ·simp [qM]
  ·intro x hx; simp [qM] at hx
  ·rfl
 have hl := List.length_pos_iff.2 hn
 unfold qM at hs ⊢
 split at hs
 ·simp at hs
 ·rename_i h0
  split
  ·rename_i h; exact absurd h h0
  ·split
   ·rename_i h1
    refine ⟨Digs.one h48, by simp, (Digs.rep h48).app hd, ?_⟩
    have := auB (neg := neg) hr hn ((-((ds.length : Int) + e)).toNat + 1) 0 (e' := e) (by omega)
    rw [List.replicate_zero, List.append_nil] at this
    simp only [List.length_append, List.length_replicate]
    rw [show -((((-((ds.length : Int) + e)).toNat + ds.length : Nat)) : Int) = e by omega, show ([48] ++ (List.replicate (-((ds.length : Int) + e)).toNat 48 ++ ds) : List UInt8) = List.replicate ((-((ds.length : Int) + e)).toNat + 1) 48 ++ ds by rw [List.replicate_succ]; rfl]
    exact this
   ·split
    ·rename_i h1 h2
     refine ⟨hd.app (Digs.rep h48), by simp [hn], fun x hx => by simp at hx, ?_⟩
     have := auB (neg := neg) hr hn 0 ((ds.length : Int) + e - ds.length).toNat (e' := 0) (by omega)
     rw [List.replicate_zero, List.nil_append] at this
     simp only [List.append_nil, List.length_nil]
     exact this
    ·rename_i h1 h2
     refine ⟨hd.take _, ?_, hd.drop _, ?_⟩
     ·intro q
      have := congrArg List.length q
      rw [List.length_take, List.length_nil] at this
      omega
     ·have := auB (neg := neg) hr hn 0 0 (e' := e) (by omega)
      rw [List.replicate_zero, List.nil_append, List.append_nil] at this
      simp only [List.take_append_drop, List.length_drop]
      rw [show -((ds.length - ((ds.length : Int) + e).toNat : Nat) : Int) = e by omega]
      exact this
theorem azR {l : Loc} (hl : l.fine) (neg : Bool) {c : UInt8} {t : List UInt8} (hc : isD c) : abZ l ((if neg = true then l.minus else []) ++ (c :: t)) = some (c :: t, neg) := by
 obtain ⟨m, q, hm, hmd, h43, h40, h45, _⟩ := hl.minus
 have hp : ∀ (k : UInt8) (z : List UInt8), ¬ isD k → hasPrefix (c :: t) (k :: z) = false := fun k z hk => yU (fun e => by injection e with e; exact hk (e ▸ hc))
 have ht : qZ yC (c :: t).length (c :: t) = c :: t := acC (.inr (by rw [aeK hc]; exact acK hc)) _
 cases neg with
 | false =>
  simp only [Bool.false_eq_true, if_false, List.nil_append]
  unfold abZ acA
  rw [hm, hp 40 [] (notD (by decide)), hp 43 [] (notD (by decide)), hp 45 [] (notD (by decide)), hp m q hmd]
  simp only [Bool.false_eq_true, if_false]
  rw [ht]
 | true =>
  simp only [if_true]
  have e40 : hasPrefix (l.minus ++ (c :: t)) [40] = false := by rw [hm]; exact yU (fun e => h40 (by injection e))
  have e43 : hasPrefix (l.minus ++ (c :: t)) [43] = false := by rw [hm]; exact yU (fun e => h43 (by injection e))
  have em : hasPrefix (l.minus ++ (c :: t)) l.minus = true := by unfold hasPrefix; rw [List.isPrefixOf_iff_prefix]; exact List.prefix_append _ _
  have et : trimPrefix (l.minus ++ (c :: t)) l.minus = c :: t := by unfold trimPrefix; rw [if_pos em]; exact List.drop_left
  unfold abZ acA
  rw [e40, e43]
  simp only [Bool.false_eq_true, if_false]
  by_cases hh : hasPrefix (l.minus ++ (c :: t)) [45] = true
  ·rw [if_pos hh]
   have hm45 : m = 45 := by
    rw [hm] at hh
    simp [hasPrefix, List.isPrefixOf] at hh
    exact hh.symm
   have hq : l.minus = [45] := by rw [hm, h45 hm45, hm45]
   rw [hq] at et ⊢
   rw [et, ht]
  ·rw [if_neg hh, if_pos em, et, ht]
theorem axC {l : Loc} (hl : l.fine) {c : UInt8} {t : List UInt8} (hc : isD c) (hz : isD ((c :: t).getD t.length 0)) : acP l (c :: t) = (0, c :: t, 0) := by
 obtain ⟨k, q, hk, hkd, hkl⟩ := hl.cur
 have hp : hasPrefix (c :: t) l.cur = false := by rw [hk]; exact yU (fun e => by injection e with e; exact hkd (e ▸ hc))
 have hs : hasSuffix (c :: t) l.cur = false := by
  rw [hk]
  refine arO (by simp) (fun e => hkl ?_)
  simp only [List.length_cons, Nat.add_sub_cancel] at e
  rw [e]; exact hz
 have hc2 : hasSuffix (c :: t) l.pct = false := by
  rw [hl.pct]
  refine arO (by simp) (fun e => ?_)
  simp only [List.length_cons, Nat.add_sub_cancel] at e
  rw [← e] at hz
  exact absurd hz (notD (by decide))
 unfold acP
 rw [hp, hs, hc2]; rfl
section
open Go Go.RowKit

inductive PT where
 | done : PT
 | op (i : Nat) (p : Bool) (k : PT) : PT
 | two (i : Nat) (a : PT) (j : Nat) (b : PT) : PT
def PT.size : PT → Nat
 | .done => 0
 | .op _ _ k => k.size + 1
 | .two _ a _ _ => a.size + 1
section
def aqZ (ops : Array Oper) : PT → Array Bool → Bool
 | .done, listed => (Region.ready .any ops listed).isEmpty
 | .op i p k, listed => (if p then (Region.ready .any ops listed).contains i && Region.free .any ops listed i else Region.ready .any ops listed == [i]) && aqZ ops k (listed.setIfInBounds i true)
 | .two i a j b, listed => (Region.ready .any ops listed == [i, j]) && (a.size == b.size) && aqZ ops a (listed.setIfInBounds i true) && aqZ ops b (listed.setIfInBounds j true)
def ATree (P : Program) (n : Nat) (ops : Array Oper) (Q : Exit → Env → Heap → Prop) : PT → Env → Heap → Prop
 | .done, env, H => Q .normal env H
 | .op i p k, env, H => ∃ o, ops[i]? = some o ∧ fits n o.dst = true ∧
   ((p = true ∧ ∃ x, Steady P ops o env x ∧ ATree P n ops Q k (env.put o.dst x) H) ∨
    (p = false ∧ Wanted ops (Env.only (o.looksAt ops) env) o true ∧ ∃ R, AStep P o (Env.only (o.looksAt ops) env) H R ∧ ∀ x H', R x H' → ATree P n ops Q k (env.put o.dst x) H'))
 | .two i a j b, env, H => XOp P n ops i (ATree P n ops Q a) env H ∧ XOp P n ops j (ATree P n ops Q b) env H
variable {P : Program} {n : Nat} {ops : Array Oper}
theorem acT {Q : Exit → Env → Heap → Prop} : ∀ (t : PT) (listed : Array Bool) (env : Env) (H : Heap), aqZ ops t listed = true → ATree P n ops Q t env H → XAny P n ops (Q .normal) t.size listed env H
 | .done, listed, env, H, hB, h => ⟨by simpa [aqZ] using hB, env, fun _ => rfl, h⟩
 | .op i p k, listed, env, H, hB, h => by
  obtain ⟨o, hi, hd, hcase⟩ := h
  simp only [aqZ, Bool.and_eq_true] at hB
  obtain ⟨hB1, hB2⟩ := hB
  rcases hcase with ⟨rfl, x, hx, hk⟩ | ⟨rfl, hw, R, hx, hk⟩
  ·simp only [if_true, Bool.and_eq_true] at hB1
   exact aiP hi hd k.size listed env H (Region.free_spec hi hB1.2) (by simpa using hB1.1) hx (acT k _ _ H hB2 hk)
  ·simp only [Bool.false_eq_true, if_false, beq_iff_eq] at hB1
   refine ⟨fun h0 => (by rw [hB1] at h0; cases h0), fun j hj => ?_⟩
   rw [hB1] at hj
   have hji : j = i := by simpa using hj
   subst hji
   exact ⟨o, hi, hd, .inr ⟨hw, R, hx, fun y H' hR => acT k _ _ H' hB2 (hk y H' hR)⟩⟩
 | .two i a j b, listed, env, H, hB, h => by
  simp only [aqZ, Bool.and_eq_true, beq_iff_eq] at hB
  obtain ⟨⟨⟨hrd, hl⟩, hb1⟩, hb2⟩ := hB
  obtain ⟨h1, h2⟩ := h
  refine ⟨fun h0 => (by rw [hrd] at h0; cases h0), fun k hk => ?_⟩
  rw [hrd] at hk
  rcases List.mem_cons.1 hk with rfl | hk
  ·exact h1.mono fun e2 H2 hq => acT a _ e2 H2 hb1 hq
  ·have : k = j := by simpa using hk
   subst this
   rw [hl]
   exact h2.mono fun e2 H2 hq => acT b _ e2 H2 hb2 hq
theorem AWP.drawT {Q : Exit → Env → Heap → Prop} {env : Env} {H : Heap} {id : Nat} {l : List Oper} (t : PT) (hm : P.follows .mixedOrders = true)
  (hB : ((t.size == l.length) && aqZ l.toArray t (Array.replicate l.length false)) = true) (h : ATree P n l.toArray Q t env H) : AWP P n (.region id l.toArray true) Q env H := by
 intro g a w hr hs
 simp only [Bool.and_eq_true, beq_iff_eq] at hB
 obtain ⟨hlen, hB⟩ := hB
 refine wp_region_any hm ?_
 have hC := acT t _ env H hB h
 rw [hlen] at hC
 rw [show l.toArray.size = l.length by simp]
 exact abT (g0 := g) (fun g' a' w' e H' hle hr' hs' hq => ⟨g', e, H', hle, hr', hs', hq⟩) _ _ g a _ env H (G.le.refl g) hr hs.drew hC
variable {Q : Exit → Env → Heap → Prop} {env : Env} {H : Heap}
theorem ATree.nil (h : Q .normal env H) : ATree P n ops Q .done env H := h
theorem ATree.free {i : Nat} {o : Oper} {r : PT} {x : AV} (hi : ops[i]? = some o) (hw : Wanted ops (Env.only (o.looksAt ops) env) o true) (hd : fits n o.dst = true) (h : asI P o (Env.only (o.looksAt ops) env) x) (hk : ATree P n ops Q r (env.put o.dst x) H) :
  ATree P n ops Q (.op i true r) env H := ⟨o, hi, hd, .inl ⟨rfl, x, .inl ⟨hw, h⟩, hk⟩⟩
theorem ATree.unwanted {i : Nat} {o : Oper} {r : PT} (hi : ops[i]? = some o) (hw : Wanted ops (Env.only (o.looksAt ops) env) o false) (hd : fits n o.dst = true) (hk : ATree P n ops Q r (env.put o.dst (.raw undef)) H) :
  ATree P n ops Q (.op i true r) env H := ⟨o, hi, hd, .inl ⟨rfl, _, .inr ⟨hw, rfl⟩, hk⟩⟩
theorem ATree.step {i : Nat} {o : Oper} {r : PT} {R : AV → Heap → Prop} (hi : ops[i]? = some o) (hw : Wanted ops (Env.only (o.looksAt ops) env) o true) (hd : fits n o.dst = true) (h : AStep P o (Env.only (o.looksAt ops) env) H R)
  (hk : ∀ x H', R x H' → ATree P n ops Q r (env.put o.dst x) H') : ATree P n ops Q (.op i false r) env H := ⟨o, hi, hd, .inr ⟨rfl, hw, R, h, hk⟩⟩
theorem XTree.s {i : Nat} {r : PT} {op : Op} {ty : TypeId} {pos : String} {af : Array Edge} {d : Tmp} {R : AV → Heap → Prop} (hi : ops[i]? = some ⟨some d, op, ty, pos, af, none⟩) (hd : Nat.blt d n = true) (h : AStep P ⟨some d, op, ty, pos, af, none⟩ (Env.only (Oper.looksAt ops ⟨some d, op, ty, pos, af, none⟩) env) H R)
  (k : ∀ x H', R x H' → ATree P n ops Q r ((d, x) :: env) H') : XOp P n ops i (ATree P n ops Q r) env H :=
 ⟨_, hi, hd, .inr ⟨.free rfl, R, h, k⟩⟩
variable {op : Op} {ty : TypeId} {pos : String} {af : Array Edge} {x : AV} {i : Nat} {r : PT}
theorem ATree.p {d : Tmp} (hi : ops[i]? = some ⟨some d, op, ty, pos, af, none⟩) (hd : Nat.blt d n = true) (h : APure P ⟨some d, op, ty, pos, af, none⟩ (Env.only (Oper.looksAt ops ⟨some d, op, ty, pos, af, none⟩) env) x) (k : ATree P n ops Q r ((d, x) :: env) H) : ATree P n ops Q (.op i true r) env H :=
 ATree.free hi (.free rfl) hd h.free k
theorem ATree.f {d : Tmp} (hi : ops[i]? = some ⟨some d, op, ty, pos, af, none⟩) (hd : Nat.blt d n = true) (h : asI P ⟨some d, op, ty, pos, af, none⟩ (Env.only (Oper.looksAt ops ⟨some d, op, ty, pos, af, none⟩) env) x) (k : ATree P n ops Q r ((d, x) :: env) H) : ATree P n ops Q (.op i true r) env H :=
 ATree.free hi (.free rfl) hd h k
theorem ATree.s {d : Tmp} {R : AV → Heap → Prop} (hi : ops[i]? = some ⟨some d, op, ty, pos, af, none⟩) (hd : Nat.blt d n = true) (h : AStep P ⟨some d, op, ty, pos, af, none⟩ (Env.only (Oper.looksAt ops ⟨some d, op, ty, pos, af, none⟩) env) H R) (k : ∀ x H', R x H' → ATree P n ops Q r ((d, x) :: env) H') :
  ATree P n ops Q (.op i false r) env H := ATree.step hi (.free rfl) hd h k
theorem ATree.s0 {R : AV → Heap → Prop} (hi : ops[i]? = some ⟨none, op, ty, pos, af, none⟩) (h : AStep P ⟨none, op, ty, pos, af, none⟩ (Env.only (Oper.looksAt ops ⟨none, op, ty, pos, af, none⟩) env) H R) (k : ∀ x H', R x H' → ATree P n ops Q r env H') :
  ATree P n ops Q (.op i false r) env H := ATree.step hi (.free rfl) rfl h k
theorem ATree.gp {d : Tmp} {e : Tmp} {j : Nat} {want b : Bool} (hi : ops[i]? = some ⟨some d, op, ty, pos, af, some (j, want)⟩) (hd : Nat.blt d n = true) (hg : (ops[j]?).bind (·.dst) = some e) (hb : (Env.only (Oper.looksAt ops ⟨some d, op, ty, pos, af, some (j, want)⟩) env).get? e = some (.bool b)) (hbw : b = want)
  (h : APure P ⟨some d, op, ty, pos, af, some (j, want)⟩ (Env.only (Oper.looksAt ops ⟨some d, op, ty, pos, af, some (j, want)⟩) env) x) (k : ATree P n ops Q r ((d, x) :: env) H) : ATree P n ops Q (.op i true r) env H :=
 ATree.free hi (.yes rfl hg hb hbw) hd h.free k
theorem ATree.gf {d : Tmp} {e : Tmp} {j : Nat} {want b : Bool} (hi : ops[i]? = some ⟨some d, op, ty, pos, af, some (j, want)⟩) (hd : Nat.blt d n = true) (hg : (ops[j]?).bind (·.dst) = some e) (hb : (Env.only (Oper.looksAt ops ⟨some d, op, ty, pos, af, some (j, want)⟩) env).get? e = some (.bool b)) (hbw : b = want)
  (h : asI P ⟨some d, op, ty, pos, af, some (j, want)⟩ (Env.only (Oper.looksAt ops ⟨some d, op, ty, pos, af, some (j, want)⟩) env) x) (k : ATree P n ops Q r ((d, x) :: env) H) : ATree P n ops Q (.op i true r) env H :=
 ATree.free hi (.yes rfl hg hb hbw) hd h k
theorem ATree.gs {d : Tmp} {e : Tmp} {j : Nat} {want b : Bool} {R : AV → Heap → Prop} (hi : ops[i]? = some ⟨some d, op, ty, pos, af, some (j, want)⟩) (hd : Nat.blt d n = true) (hg : (ops[j]?).bind (·.dst) = some e) (hb : (Env.only (Oper.looksAt ops ⟨some d, op, ty, pos, af, some (j, want)⟩) env).get? e = some (.bool b)) (hbw : b = want)
  (h : AStep P ⟨some d, op, ty, pos, af, some (j, want)⟩ (Env.only (Oper.looksAt ops ⟨some d, op, ty, pos, af, some (j, want)⟩) env) H R) (k : ∀ x H', R x H' → ATree P n ops Q r ((d, x) :: env) H') : ATree P n ops Q (.op i false r) env H :=
 ATree.step hi (.yes rfl hg hb hbw) hd h k
theorem ATree.gn {d : Tmp} {e : Tmp} {j : Nat} {want b : Bool} (hi : ops[i]? = some ⟨some d, op, ty, pos, af, some (j, want)⟩) (hd : Nat.blt d n = true) (hg : (ops[j]?).bind (·.dst) = some e) (hb : (Env.only (Oper.looksAt ops ⟨some d, op, ty, pos, af, some (j, want)⟩) env).get? e = some (.bool b)) (hbw : b = !want)
  (k : ATree P n ops Q r ((d, .raw undef) :: env) H) : ATree P n ops Q (.op i true r) env H :=
 ATree.unwanted hi (.no rfl hg hb hbw) hd k

theorem ATree.gdead {d : Tmp} {e : Tmp} {j : Nat} {want : Bool} (hi : ops[i]? = some ⟨some d, op, ty, pos, af, some (j, want)⟩) (hd : Nat.blt d n = true) (hg : (ops[j]?).bind (·.dst) = some e) (hb : (Env.only (Oper.looksAt ops ⟨some d, op, ty, pos, af, some (j, want)⟩) env).get? e = some (.raw undef))
  (k : ATree P n ops Q r ((d, .raw undef) :: env) H) : ATree P n ops Q (.op i true r) env H :=
 ATree.unwanted hi (.dead j want e rfl hg hb) hd k

end
end

section
open Go Go.RowKit

theorem bits_64 {neg : Bool} {ds : List UInt8} {e : Int} (hr : qG ds e = true) : qU neg ds e < 18446744073709551616 := by
 have h := aqD (qP hr) e
 unfold qU aaD
 unfold ajF at h
 split <;> omega

end
end Go.Proofs.YtfkeflcdadlmdaaGreatDoor
