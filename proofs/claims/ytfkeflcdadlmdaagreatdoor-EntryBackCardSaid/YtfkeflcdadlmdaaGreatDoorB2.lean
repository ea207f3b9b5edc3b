import Derived.Test.YtfkeflcdadlmdaaGreatDoorU3
import Derived.Test.YtfkeflcdadlmdaaGreatDoorB1
import Derived.Test.YtfkeflcdadlmdaaGreatDoorX2
import Derived.Test.YtfkeflcdadlmdaaGreatDoorS6
import Derived.Test.YtfkeflcdadlmdaaGreatDoorSsk
namespace Go.Proofs.YtfkeflcdadlmdaaGreatDoor
open Go Go.RowKit Go.Lib

theorem aeQ {c : UInt8} {r s : List UInt8} (h : s.head? ≠ some c) : hasPrefix s (c :: r) = false := by
 unfold hasPrefix
 cases s with
 | nil => rfl
 | cons b t =>
  have : c ≠ b := fun e => h (by rw [e]; rfl)
  simp [List.isPrefixOf, this]
theorem agE {c : UInt8} {r : List UInt8} : ∀ {s : List UInt8}, c ∉ s → index s (c :: r) = -1
 | [], _ => rfl
 | b :: t, h => by
  have h1 := aeQ (c := c) (r := r) (s := b :: t) (fun e => h (by injection e with e; rw [e]; simp))
  have h2 := agE (c := c) (r := r) (s := t) (fun q => h (by simp [q]))
  unfold hasPrefix at h1
  unfold index
  rw [h1, h2]; rfl
theorem akA {c : UInt8} {r z : List UInt8} : ∀ {w : List UInt8}, c ∉ w → index (w ++ (c :: r) ++ z) (c :: r) = (w.length : Int)
 | [], _ => by
  show index (c :: (r ++ z)) (c :: r) = 0
  unfold index
  rw [if_pos (by simp [List.isPrefixOf])]
 | b :: t, h => by
  have h1 := aeQ (c := c) (r := r) (s := b :: (t ++ (c :: r) ++ z)) (fun e => h (by injection e with e; rw [e]; simp))
  have h2 := akA (c := c) (r := r) (z := z) (w := t) (fun q => h (by simp [q]))
  unfold hasPrefix at h1
  show index (b :: (t ++ (c :: r) ++ z)) (c :: r) = _
  unfold index
  rw [h1, h2, if_neg (by decide)]
  rw [if_neg (by rw [beq_iff_eq]; omega), List.length_cons]; omega
theorem anX {old new s : List UInt8} (h : index s old = -1) : ∀ k, replaceK old new k s = s
 | 0 => rfl
 | k + 1 => by rw [replaceK, if_pos (by rw [h]; rfl)]
theorem arT {old new s : List UInt8} (h : index s old = -1) : replaceAll s old new = s := by
 unfold replaceAll replace
 split
 ·rfl
 ·exact anX h _
theorem repl_one {c d : UInt8} {m z : List UInt8} (hm : c ∉ m) (hz : c ∉ z) : replaceAll (m ++ [c] ++ z) [c] [d] = m ++ [d] ++ z := by
 have hi := akA (c := c) (r := []) (z := z) hm
 unfold replaceAll replace
 split
 ·rename_i h
  have : c = d := by simpa using h
  rw [this]
 ·unfold replaceNum
  rw [if_pos (.inl (by decide))]
  unfold count
  rw [countFrom, if_neg (by rw [hi, beq_iff_eq]; omega), Nat.add_comm 1, replaceK_hit _ _ _ _ _ hi]
  rw [anX (by
    have : (m ++ [c] ++ z).drop (m.length + [c].length) = z := by rw [show m.length + [c].length = (m ++ [c]).length by simp]; exact List.drop_left
    rw [this]; exact agE hz)]
  congr 1
  ·rw [List.append_assoc m, List.take_left]
  ·rw [show m.length + [c].length = (m ++ [c]).length by simp]; exact List.drop_left
theorem eAt_none {s : List UInt8} (h : (69 : UInt8) ∉ s) (h2 : (101 : UInt8) ∉ s) : eAt s = -1 := by
 unfold eAt
 rw [arT (agE h), ← index_one, agE h2]
theorem eAt_some {m z : List UInt8} (h : (69 : UInt8) ∉ m) (h2 : (101 : UInt8) ∉ m) (hz : (69 : UInt8) ∉ z) : eAt (m ++ [69] ++ z) = (m.length : Int) := by
 unfold eAt
 rw [repl_one h hz, ← index_one, akA h2]
theorem cut_none {c : UInt8} {r s : List UInt8} (h : c ∉ s) : cut s (c :: r) = (s, [], false) := by
 unfold cut
 rw [agE h, if_neg (by decide)]
theorem cut_some {c : UInt8} {r w z : List UInt8} (h : c ∉ w) : cut (w ++ (c :: r) ++ z) (c :: r) = (w, z, true) := by
 unfold cut
 rw [akA h, if_pos (by omega)]
 have e1 : (w ++ (c :: r) ++ z).take w.length = w := by rw [List.append_assoc, List.take_left]
 have e2 : (w ++ (c :: r) ++ z).drop (w.length + (c :: r).length) = z := by rw [show w.length + (c :: r).length = (w ++ (c :: r)).length by simp]; exact List.drop_left
 rw [Int.toNat_natCast, e1, e2]
theorem aeA {s : List UInt8} {c : UInt8} (hd : Digs s) (hc : ¬ isD c) : c ∉ s := fun h => hc (hd c h)
theorem bfT {s : List UInt8} (hd : Digs s) : aaN acY s.length s = [] := (adG s.length s (Nat.le_refl _)).2 hd
structure Loc.fine (l : Loc) : Prop where
 dc : ∃ c, l.dc = [c] ∧ ¬ isD c ∧ c ≠ 69 ∧ c ≠ 101
 grp : ∃ c r, l.grp = c :: r ∧ ¬ isD c ∧ (∀ d, l.dc = [d] → c ≠ d)
 minus : ∃ c r, l.minus = c :: r ∧ ¬ isD c ∧ c ≠ 43 ∧ c ≠ 40 ∧ (c = 45 → r = []) ∧ ∀ z, yJ (decodeL (l.minus ++ z)).1 = false
 cur : ∃ c r, l.cur = c :: r ∧ ¬ isD c ∧ ¬ isD ((c :: r).getD r.length 0)
 pct : l.pct = [37]
theorem notD {c : UInt8} (h : c.toNat < 48 ∨ 57 < c.toNat) : ¬ isD c := fun q => by unfold isD at q; omega
theorem minus_sv (z : List UInt8) : yJ (decodeL (([226, 136, 146] : List UInt8) ++ z)).1 = false := by
 have : decodeL (([226, 136, 146] : List UInt8) ++ z) = (8722, 3) := by
  rw [decodeL_N]
  simp only [List.cons_append, List.nil_append, List.getD_cons_zero, List.getD_cons_succ, List.length_cons]
  unfold decodeN
  simp
 rw [this]; decide
theorem minus_hy (z : List UInt8) : yJ (decodeL (([45] : List UInt8) ++ z)).1 = false := by
 have : decodeL (([45] : List UInt8) ++ z) = (45, 1) := by rw [decodeL_N]; exact decodeN_ascii _ _ _ _ _ (show (45 : UInt8).toNat < 128 by decide)
 rw [this]; decide
theorem alY : ∀ l ∈ locs, l.fine := by
 intro l hl
 simp only [locs, List.mem_cons, List.not_mem_nil, or_false] at hl
 rcases hl with rfl | rfl | rfl | rfl | rfl | rfl
 all_goals exact { dc := ⟨_, rfl, notD (by decide), by decide, by decide⟩, grp := ⟨_, _, rfl, notD (by decide), fun d hd => by injection hd with hd; subst hd; decide⟩, minus := ⟨_, _, rfl, notD (by decide), by decide, by decide, by decide, by first | exact minus_hy | exact minus_sv⟩, cur := ⟨_, _, rfl, notD (by decide), notD (by decide)⟩, pct := rfl }
theorem aoV {c : UInt8} {t : List UInt8} (h : isD c) : decodeL (c :: t) = (c.toNat, 1) := by
 rw [decodeL_N]; exact decodeN_ascii _ _ _ _ _ (show c.toNat < 128 by unfold isD at h; omega)
theorem ahD {c : UInt8} (h : isD c) : yJ c.toNat = false := by
 unfold isD at h
 unfold yJ
 simp only [Bool.or_eq_false_iff, beq_eq_false_iff_ne]
 omega
theorem anL {s : List UInt8} (h : s = [] ∨ yJ (decodeL s).1 = false) (f : Nat) : aaN yJ f s = s := by
 cases f with
 | zero => rfl
 | succ f =>
  by_cases h0 : s = []
  ·subst h0; exact aiI _ _
  ·rcases h with h | h
   ·exact absurd h h0
   ·rw [akJ _ _ h0, if_neg (by rw [h]; decide)]
theorem ayQ {s : List UInt8} (h : isD (s.getD (s.length - 1) 0)) (f : Nat) : abB yJ f s = s := by
 cases f with
 | zero => rfl
 | succ f =>
  by_cases h0 : s = []
  ·subst h0; exact abV _ _
  ·rw [atO _ _ h0]
   have hr : decodeLastL s = ((s.getD (s.length - 1) 0).toNat, 1) := by
    unfold decodeLastL
    rw [if_neg h0, if_pos (by have := h; unfold isD at this; omega)]
   rw [hr, if_neg (by rw [ahD h]; decide)]
theorem bcB {s : List UInt8} (h : s = [] ∨ yJ (decodeL s).1 = false) (h2 : isD (s.getD (s.length - 1) 0)) : aaQ yJ s = s := by
 unfold aaQ
 rw [anL h, ayQ h2]
theorem asP {p s : List UInt8} (hp : p ≠ []) (h : p.getD (p.length - 1) 0 ≠ s.getD (s.length - 1) 0) : hasSuffix s p = false := by
 unfold hasSuffix
 rw [Bool.eq_false_iff]
 intro q
 rw [List.isSuffixOf_iff_suffix] at q
 obtain ⟨t, rfl⟩ := q
 apply h
 have hl := List.length_pos_iff.2 hp
 rw [List.getD_eq_getElem?_getD, List.getD_eq_getElem?_getD, List.getElem?_append_right (by rw [List.length_append]; omega), List.length_append, show t.length + p.length - 1 - t.length = p.length - 1 by omega]
theorem aeS {a b : List UInt8} (h : b ≠ []) : (a ++ b).getD ((a ++ b).length - 1) 0 = b.getD (b.length - 1) 0 := by
 have hl := List.length_pos_iff.2 h
 rw [List.getD_eq_getElem?_getD, List.getD_eq_getElem?_getD, List.getElem?_append_right (by rw [List.length_append]; omega), List.length_append, show a.length + b.length - 1 - a.length = b.length - 1 by omega]
theorem amL {b : List UInt8} (hd : Digs b) (h : b ≠ []) : isD (b.getD (b.length - 1) 0) := by
 have hl := List.length_pos_iff.2 h
 rw [List.getD_eq_getElem?_getD, List.getElem?_eq_getElem (by omega)]
 exact hd _ (List.getElem_mem _)
def aeC (l : Loc) (w r : List UInt8) : List UInt8 := w ++ (if r = [] then [] else l.dc ++ r)
theorem atC {l : Loc} (hl : l.fine) {w r : List UInt8} (hw : Digs w) (hn : w ≠ []) (hr : Digs r) : ajS l (aeC l w r) = some (w ++ r, r.length, false) := by
 obtain ⟨c, hdc, hc, _, _⟩ := hl.dc
 obtain ⟨g, q, hg, hgc, _⟩ := hl.grp
 have hcut : (cut (aeC l w r) l.dc).1 = w ∧ (cut (aeC l w r) l.dc).2.1 = r := by
  unfold aeC
  rw [hdc]
  split
  ·rename_i h0
   rw [List.append_nil, cut_none (aeA hw hc), h0]; exact ⟨rfl, rfl⟩
  ·rw [← List.append_assoc, cut_some (aeA hw hc)]; exact ⟨rfl, rfl⟩
 have hbad : badB w r = false := by
  unfold badB
  rw [decide_eq_false hn, Bool.false_and, Bool.false_or]
  exact decide_eq_false (fun q => q (bfT hr))
 have hrep : replaceAll w l.grp [] = w := by rw [hg]; exact arT (agE (aeA hw hgc))
 have hwh : adF l w = some (w, false) := by
  unfold adF afG
  rw [if_neg hn, hrep, if_neg (by rintro (h | h); exact hn h; exact absurd (acP.2 hw) (by rw [h]; decide)), if_neg (by rintro ⟨h, _⟩; exact h rfl)]
  simp
 unfold ajS
 rw [hcut.1, hcut.2, hbad, if_neg (by decide), hwh]
theorem awG {l : Loc} (hl : l.fine) {w r : List UInt8} (hw : Digs w) (hr : Digs r) : (69 : UInt8) ∉ aeC l w r ∧ (101 : UInt8) ∉ aeC l w r := by
 obtain ⟨c, hdc, hc, h1, h2⟩ := hl.dc
 have n1 : ¬ isD 69 := notD (by decide)
 have n2 : ¬ isD 101 := notD (by decide)
 unfold aeC
 rw [hdc]
 constructor
 ·intro h
  rcases List.mem_append.1 h with h | h
  ·exact aeA hw n1 h
  ·split at h
   ·simp at h
   ·rcases List.mem_append.1 h with h | h
    ·exact h1 (List.mem_singleton.1 h).symm
    ·exact aeA hr n1 h
 ·intro h
  rcases List.mem_append.1 h with h | h
  ·exact aeA hw n2 h
  ·split at h
   ·simp at h
   ·rcases List.mem_append.1 h with h | h
    ·exact h2 (List.mem_singleton.1 h).symm
    ·exact aeA hr n2 h
theorem beG {l : Loc} (hl : l.fine) {w r : List UInt8} (hw : Digs w) (hn : w ≠ []) (hr : Digs r) : amY l (aeC l w r) = some (w ++ r, -(r.length : Int), r.length, false, false) := by
 obtain ⟨h1, h2⟩ := awG hl hw hr
 unfold amY ahZ
 rw [eAt_none h1 h2, if_neg (by decide)]
 simp only [atC hl hw hn hr]
 rw [Int.zero_sub]
theorem exp_read (l : Loc) {t : List UInt8} (ht : Digs t) (hn : t ≠ []) (h9 : t.length ≤ 9) (b : Bool) : axV l ((if b = true then 45 else 43) :: t) = some (if b = true then -(num t : Int) else (num t : Int)) := by
 have hs : acC l ((if b = true then 45 else 43) :: t) = (t, b) := by
  unfold acC
  cases b with
  | true =>
   rw [if_neg (show ¬ hasPrefix ((if true = true then 45 else 43) :: t) [43] = true by simp [hasPrefix, List.isPrefixOf]), if_pos (show hasPrefix ((if true = true then 45 else 43) :: t) [45] = true by simp [hasPrefix, List.isPrefixOf])]
   simp [trimPrefix, hasPrefix, List.isPrefixOf]
  | false =>
   rw [if_pos (show hasPrefix ((if false = true then 45 else 43) :: t) [43] = true by simp [hasPrefix, List.isPrefixOf])]
   simp [trimPrefix, hasPrefix, List.isPrefixOf]
 unfold axV
 rw [hs, if_pos ⟨hn, acP.2 ht, h9⟩]
theorem num_exp {l : Loc} (hl : l.fine) {w r t : List UInt8} (hw : Digs w) (hn : w ≠ []) (hr : Digs r) (ht : Digs t) (htn : t ≠ []) (h9 : t.length ≤ 9) (b : Bool) :
  amY l (aeC l w r ++ [69] ++ ((if b = true then 45 else 43) :: t)) = some (w ++ r, (if b = true then -(num t : Int) else (num t : Int)) - (r.length : Int), r.length, false, true) := by
 obtain ⟨h1, h2⟩ := awG hl hw hr
 have hz : (69 : UInt8) ∉ ((if b = true then 45 else 43) :: t : List UInt8) := by
  intro q
  rcases List.mem_cons.1 q with q | q
  ·cases b <;> simp at q
  ·exact aeA ht (notD (by decide)) q
 have he := eAt_some h1 h2 hz
 have hd : (aeC l w r ++ [69] ++ ((if b = true then 45 else 43) :: t)).drop ((aeC l w r).length + 1) = (if b = true then 45 else 43) :: t := by
  rw [show (aeC l w r).length + 1 = (aeC l w r ++ [69]).length by simp]; exact List.drop_left
 have htk : (aeC l w r ++ [69] ++ ((if b = true then 45 else 43) :: t)).take (aeC l w r).length = aeC l w r := by
  rw [List.append_assoc, List.take_left]
 unfold amY ahZ
 rw [he, if_pos (by omega), Int.toNat_natCast, hd, htk, exp_read l ht htn h9]
 simp only [atC hl hw hn hr]
theorem amI (c : UInt8) (s : List UInt8) : ∀ a, (List.replicate a c ++ s).dropWhile (· == c) = s.dropWhile (· == c)
 | 0 => rfl
 | a + 1 => by
  rw [List.replicate_succ, List.cons_append, List.dropWhile_cons, if_pos (by simp)]; exact amI c s a
theorem axW {c x : UInt8} {s : List UInt8} (h : x ≠ c) : (x :: s).dropWhile (· == c) = x :: s := by
 rw [List.dropWhile_cons, if_neg (by simpa using h)]
theorem bcD {c : UInt8} {s : List UInt8} (hn : s ≠ []) (h : s.getD (s.length - 1) 0 ≠ c) (b : Nat) : trimRightB (s ++ List.replicate b c) c = s := by
 have hl := List.length_pos_iff.2 hn
 unfold trimRightB
 rw [List.reverse_append, List.reverse_replicate, amI]
 obtain ⟨x, q, hx⟩ : ∃ x q, s.reverse = x :: q := by
  cases hs : s.reverse with
  | nil => exact absurd (List.reverse_eq_nil_iff.1 hs) hn
  | cons x q => exact ⟨x, q, rfl⟩
 have hxc : x ≠ c := by
  have : s.getD (s.length - 1) 0 = x := by
   have h2 : s = q.reverse ++ [x] := by rw [← List.reverse_reverse s, hx, List.reverse_cons]
   rw [h2, List.getD_eq_getElem?_getD]; simp
  rw [← this]; exact h
 rw [hx, axW hxc, ← hx, List.reverse_reverse]
theorem apY {neg : Bool} {ds : List UInt8} {e e' : Int} (hr : qE ds e = true) (hn : ds ≠ []) (a b : Nat) (he : e' + b = e) : mkN neg (List.replicate a 48 ++ (ds ++ List.replicate b 48)) e' = ((neg, ds, e), 0) := by
 have hr2 := hr
 unfold qE at hr2
 rw [if_neg hn] at hr2
 simp only [Bool.and_eq_true, decide_eq_true_eq, Bool.not_eq_true', decide_eq_false_iff_not] at hr2
 obtain ⟨⟨⟨⟨⟨h1, h2⟩, h3⟩, h4⟩, h5⟩, h6⟩ := hr2
 have hlong : anD (List.replicate a 48 ++ (ds ++ List.replicate b 48)) = ds ++ List.replicate b 48 := by
  unfold anD
  rw [amI]
  match ds, hn, h5 with
  | x :: q, _, h5 => exact axW (by simpa using h5)
 have hcore : abP (List.replicate a 48 ++ (ds ++ List.replicate b 48)) = ds := by
  unfold abP
  rw [hlong]; exact bcD hn h6 b
 have hmore : agM (List.replicate a 48 ++ (ds ++ List.replicate b 48)) = b := by
  unfold agM
  rw [hlong, hcore, List.length_append, List.length_replicate]; omega
 unfold mkN
 rw [hcore, if_neg hn, if_pos (by unfold okD; rw [hcore, hmore]; omega), hmore, he]
theorem ayY {neg : Bool} {ds : List UInt8} {e : Int} (hr : qE ds e = true) (hs : (qM ds ((ds.length : Int) + e)).2 = true) :
  Digs (qM ds ((ds.length : Int) + e)).1.1 ∧ (qM ds ((ds.length : Int) + e)).1.1 ≠ [] ∧ Digs (qM ds ((ds.length : Int) + e)).1.2 ∧
  mkN neg ((qM ds ((ds.length : Int) + e)).1.1 ++ (qM ds ((ds.length : Int) + e)).1.2) (-((qM ds ((ds.length : Int) + e)).1.2.length : Int)) = ((neg, ds, e), 0) := by
 have hd := qS hr
 have h48 : isD 48 := by unfold isD; decide
 by_cases hn : ds = []
 ·subst hn
  have he : e = 0 := by simpa [qE] using hr
  subst he
  refine ⟨?_, ?_, ?_, ?_⟩
  ·exact Digs.one h48
  ·simp [qM]
  ·intro x hx; simp [qM] at hx
  ·rfl
 have hl := List.length_pos_iff.2 hn
 unfold qM at hs ⊢
 split at hs
 ·simp at hs
 ·rename_i h0
  split
  ·rename_i h; exact absurd h h0
  ·split
   ·rename_i h1
    refine ⟨Digs.one h48, by simp, (Digs.rep h48).app hd, ?_⟩
    have := apY (neg := neg) hr hn ((-((ds.length : Int) + e)).toNat + 1) 0 (e' := e) (by omega)
    rw [List.replicate_zero, List.append_nil] at this
    simp only [List.length_append, List.length_replicate]
    rw [show -((((-((ds.length : Int) + e)).toNat + ds.length : Nat)) : Int) = e by omega, show ([48] ++ (List.replicate (-((ds.length : Int) + e)).toNat 48 ++ ds) : List UInt8) = List.replicate ((-((ds.length : Int) + e)).toNat + 1) 48 ++ ds by rw [List.replicate_succ]; rfl]
    exact this
   ·split
    ·rename_i h1 h2
     refine ⟨hd.app (Digs.rep h48), by simp [hn], fun x hx => by simp at hx, ?_⟩
     have := apY (neg := neg) hr hn 0 ((ds.length : Int) + e - ds.length).toNat (e' := 0) (by omega)
     rw [List.replicate_zero, List.nil_append] at this
     simp only [List.append_nil, List.length_nil]
     exact this
    ·rename_i h1 h2
     refine ⟨hd.take _, ?_, hd.drop _, ?_⟩
     ·intro q
      have := congrArg List.length q
      rw [List.length_take, List.length_nil] at this
      omega
     ·have := apY (neg := neg) hr hn 0 0 (e' := e) (by omega)
      rw [List.replicate_zero, List.nil_append, List.append_nil] at this
      simp only [List.take_append_drop, List.length_drop]
      rw [show -((ds.length - ((ds.length : Int) + e).toNat : Nat) : Int) = e by omega]
      exact this
theorem baM {l : Loc} (hl : l.fine) (neg : Bool) {c : UInt8} {t : List UInt8} (hc : isD c) : aeP l ((if neg = true then l.minus else []) ++ (c :: t)) = some (c :: t, neg) := by
 obtain ⟨m, q, hm, hmd, h43, h40, h45, _⟩ := hl.minus
 have hp : ∀ (k : UInt8) (z : List UInt8), ¬ isD k → hasPrefix (c :: t) (k :: z) = false := fun k z hk => aeQ (fun e => by injection e with e; exact hk (e ▸ hc))
 have ht : aaN yJ (c :: t).length (c :: t) = c :: t := anL (.inr (by rw [aoV hc]; exact ahD hc)) _
 cases neg with
 | false =>
  simp only [Bool.false_eq_true, if_false, List.nil_append]
  unfold aeP acC
  rw [hm, hp 40 [] (notD (by decide)), hp 43 [] (notD (by decide)), hp 45 [] (notD (by decide)), hp m q hmd]
  simp only [Bool.false_eq_true, if_false]
  rw [ht]
 | true =>
  simp only [if_true]
  have e40 : hasPrefix (l.minus ++ (c :: t)) [40] = false := by rw [hm]; exact aeQ (fun e => h40 (by injection e))
  have e43 : hasPrefix (l.minus ++ (c :: t)) [43] = false := by rw [hm]; exact aeQ (fun e => h43 (by injection e))
  have em : hasPrefix (l.minus ++ (c :: t)) l.minus = true := by unfold hasPrefix; rw [List.isPrefixOf_iff_prefix]; exact List.prefix_append _ _
  have et : trimPrefix (l.minus ++ (c :: t)) l.minus = c :: t := by unfold trimPrefix; rw [if_pos em]; exact List.drop_left
  unfold aeP acC
  rw [e40, e43]
  simp only [Bool.false_eq_true, if_false]
  by_cases hh : hasPrefix (l.minus ++ (c :: t)) [45] = true
  ·rw [if_pos hh]
   have hm45 : m = 45 := by
    rw [hm] at hh
    simp [hasPrefix, List.isPrefixOf] at hh
    exact hh.symm
   have hq : l.minus = [45] := by rw [hm, h45 hm45, hm45]
   rw [hq] at et ⊢
   rw [et, ht]
  ·rw [if_neg hh, if_pos em, et, ht]
theorem amt_read {l : Loc} (hl : l.fine) {c : UInt8} {t : List UInt8} (hc : isD c) (hz : isD ((c :: t).getD t.length 0)) : adB l (c :: t) = (0, c :: t, 0) := by
 obtain ⟨k, q, hk, hkd, hkl⟩ := hl.cur
 have hp : hasPrefix (c :: t) l.cur = false := by rw [hk]; exact aeQ (fun e => by injection e with e; exact hkd (e ▸ hc))
 have hs : hasSuffix (c :: t) l.cur = false := by
  rw [hk]
  refine asP (by simp) (fun e => hkl ?_)
  simp only [List.length_cons, Nat.add_sub_cancel] at e
  rw [e]; exact hz
 have hc2 : hasSuffix (c :: t) l.pct = false := by
  rw [hl.pct]
  refine asP (by simp) (fun e => ?_)
  simp only [List.length_cons, Nat.add_sub_cancel] at e
  rw [← e] at hz
  exact absurd hz (notD (by decide))
 unfold adB
 rw [hp, hs, hc2]; rfl
theorem aoS {l : Loc} (hl : l.fine) (neg : Bool) {c : UInt8} {t d ds : List UInt8} {e e' : Int} {k : Nat} {x : Bool} (hc : isD c) (hz : isD ((c :: t).getD t.length 0)) (hn : amY l (c :: t) = some (d, e', k, false, x)) (hm : mkN neg d e' = ((neg, ds, e), 0)) :
  abL l (aaQ yJ ((if neg = true then l.minus else []) ++ (c :: t))) = if qA (abU neg ds e) = 3 then (EntN.zero, 2) else (⟨abU neg ds e, 0, k, false, x⟩, 0) := by
 obtain ⟨m, q, hm0, _, _, _, _, hb⟩ := hl.minus
 have ht : aaQ yJ ((if neg = true then l.minus else []) ++ (c :: t)) = (if neg = true then l.minus else []) ++ (c :: t) := by
  refine bcB (.inr ?_) (by rw [aeS (by simp)]; exact hz)
  cases neg with
  | true => exact hb _
  | false => simp only [Bool.false_eq_true, if_false, List.nil_append]; rw [aoV hc]; exact ahD hc
 unfold abL
 rw [ht, baM hl neg hc]
 simp only
 unfold aqX
 rw [amt_read hl hc hz]
 simp only [hn, Int.add_zero, hm]
 rw [if_neg (by simp)]
theorem BIG_ten : ∃ k : Nat, k = 2500 ∧ BIG < 10 ^ k := ⟨2500, rfl, by unfold BIG; decide +kernel⟩
theorem beV (ds : List UInt8) : (anD ds).length ≤ ds.length := amJ _ _
theorem beM (ds : List UInt8) : agM ds ≤ ds.length := by unfold agM; have := beV ds; omega
theorem ofN_exp (neg : Bool) {m : Nat} {e : Int} (hm : m < 18014398509481984) (he : -1075 ≤ e ∧ e ≤ 972) : -1075 ≤ (ofN neg m e).2.2 ∧ (ofN neg m e).2.2 ≤ 2500 := by
 obtain ⟨K, hK, hB⟩ := BIG_ten
 have h1 := beD hm he
 have h2 : (dec (ofR m e)).length ≤ K := (afV (by omega)).2 (Nat.lt_trans h1 hB)
 have h3 := beM (dec (ofR m e))
 have h4 : -1075 ≤ ofX m e ∧ ofX m e ≤ 0 := by
  unfold ofX
  have := (ajT (-e).toNat m).2
  split <;> omega
 rw [beE]
 unfold mkN
 split
 ·simp
 ·split
  ·simp only; omega
  ·simp
theorem awO {x : Nat} (hk : qA x < 3) : (abC x 15).2 = 0 ∧ -2000 ≤ (abC x 15).1.2.2 ∧ (abC x 15).1.2.2 ≤ 5000 := by
 have hm := aeY x
 have hp := adO x
 have he := ofN_exp (negB x) (m := acD x) (e := aeF x) (by omega) hp
 have hr := asG (negB x) (acD x) (aeF x)
 have hl := (aaL hr).1
 unfold abC
 rw [if_neg (by omega)]
 unfold amN
 rw [if_neg (by omega)]
 generalize ofN (negB x) (acD x) (aeF x) = o at *
 obtain ⟨ng, ds, e⟩ := o
 dsimp only at he hr hl ⊢
 unfold sigD
 split
 ·exact ⟨rfl, by show -2000 ≤ e; omega, by show e ≤ 5000; omega⟩
 ·rename_i hlen
  unfold cutD
  have hs : ∀ s : List UInt8, s.length ≤ 16 → (mkN ng s (e + ds.length - 15)).2 = 0 ∧ -2000 ≤ (mkN ng s (e + ds.length - 15)).1.2.2 ∧ (mkN ng s (e + ds.length - 15)).1.2.2 ≤ 5000 := by
   intro s hs
   have h1 := beM s
   have h2 : (abP s).length ≤ s.length := Nat.le_trans (afL _ _) (beV s)
   unfold mkN
   split
   ·simp
   ·split
    ·exact ⟨rfl, by show -2000 ≤ e + (ds.length : Int) - 15 + (agM s : Int); omega, by show e + (ds.length : Int) - 15 + (agM s : Int) ≤ 5000; omega⟩
    ·rename_i h; exact absurd (show okD s (e + ds.length - 15) from ⟨by omega, by omega, by omega⟩) h
  refine hs _ ?_
  split
  ·refine Nat.le_trans (akB _) ?_
   rw [List.length_take]; omega
  ·rw [List.length_take]; omega
theorem ayI {l : Loc} {neg : Bool} {ds : List UInt8} {p : Int} (h : (qM ds p).2 = true) : afE l neg ds p = (if neg = true then l.minus else []) ++ aeC l (qM ds p).1.1 (qM ds p).1.2 := by
 unfold afE aeC
 rw [if_pos h]
theorem beQ {l : Loc} {neg : Bool} {ds : List UInt8} : anC l neg ds = (if neg = true then l.minus else []) ++ aeC l (ds.take 1) (ds.drop 1) := by
 unfold anC aeC
 rw [List.append_assoc]
 congr 2
 by_cases h : (1 : Int) < (ds.length : Int)
 ·rw [if_pos h, if_neg]
  intro q
  have := congrArg List.length q
  rw [List.length_drop, List.length_nil] at this
  omega
 ·rw [if_neg h, if_pos]
  exact List.drop_eq_nil_of_le (by omega)
theorem aqY {l : Loc} {w r : List UInt8} (hw : Digs w) (hn : w ≠ []) (hr : Digs r) : ∃ c t, aeC l w r = c :: t ∧ isD c ∧ isD ((c :: t).getD t.length 0) := by
 match w, hn with
 | c :: q, _ =>
  refine ⟨c, q ++ (if r = [] then [] else l.dc ++ r), rfl, hw c (by simp), ?_⟩
  show isD (((c :: q) ++ (if r = [] then [] else l.dc ++ r)).getD _ 0)
  have hL : (q ++ (if r = [] then [] else l.dc ++ r)).length = ((c :: q) ++ (if r = [] then [] else l.dc ++ r)).length - 1 := by simp
  rw [hL]
  by_cases h : r = []
  ·rw [if_pos h, List.append_nil]
   exact amL hw (by simp)
  ·rw [if_neg h, aeS (by simp [h]), aeS h]
   exact amL hr h
theorem sides_ok {ds : List UInt8} {p : Int} (h1 : p ≤ 400) (h2 : (ds.length : Int) - p ≤ 400) : (qM ds p).2 = true := by
 unfold qM
 rw [if_neg (by omega)]
 repeat' split
 all_goals rfl
theorem baW {p : Int} (hp : -100000 ≤ p ∧ p ≤ 100000) : Digs ((if (dec (acX p)).length < 2 then [48] else []) ++ dec (acX p)) ∧ ((if (dec (acX p)).length < 2 then [48] else []) ++ dec (acX p) : List UInt8) ≠ [] ∧
  ((if (dec (acX p)).length < 2 then [48] else []) ++ dec (acX p) : List UInt8).length ≤ 9 ∧ num ((if (dec (acX p)).length < 2 then [48] else []) ++ dec (acX p)) = acX p := by
 have h48 : isD 48 := by unfold isD; decide
 have hl : (dec (acX p)).length ≤ 8 := (afV (by decide)).2 (by unfold acX; split <;> omega)
 have hne : dec (acX p) ≠ [] := by
  intro q
  have h := (afV (n := acX p) (k := 1) (by decide)).1 (by rw [q]; decide)
  have h2 := avB (acX p)
  rw [q] at h2
  have h3 : acX p = 0 := h2.symm
  rw [h3] at q
  exact absurd q (by decide)
 refine ⟨?_, ?_, ?_, ?_⟩
 ·refine Digs.app ?_ (aiC _)
  split
  ·exact Digs.one h48
  ·exact fun x hx => by simp at hx
 ·intro q
  exact hne (List.append_eq_nil_iff.1 q).2
 ·rw [List.length_append]
  split <;> simp only [List.length_cons, List.length_nil] <;> omega
 ·split
  ·rw [agB, avB, show num [48] = 0 by rfl]; omega
  ·rw [List.nil_append, avB]
theorem gen_read {l : Loc} (hl : l.fine) {neg : Bool} {ds : List UInt8} {e : Int} (hr : qE ds e = true) (hlen : ds.length ≤ 16) (he : -2000 ≤ e ∧ e ≤ 5000) :
  ∃ (k : Nat) (x : Bool), abL l (aaQ yJ (aqH l ((neg, ds, e), 0))) = if qA (abU neg ds e) = 3 then (EntN.zero, 2) else (⟨abU neg ds e, 0, k, false, x⟩, 0) := by
 unfold aqH
 simp only [ne_eq, not_true_eq_false, if_false]
 by_cases hp : ds = [] ∨ (-4 ≤ (ds.length : Int) + e ∧ (ds.length : Int) + e ≤ 15)
 ·rw [if_pos hp]
  have hs : (qM ds ((ds.length : Int) + e)).2 = true := by
   rcases hp with rfl | hp
   ·have : e = 0 := by simpa [qE] using hr
    subst this; rfl
   ·exact sides_ok (by omega) (by omega)
  obtain ⟨hw, hn, hrr, hm⟩ := ayY (neg := neg) hr hs
  rw [ayI hs]
  have hnum := beG hl hw hn hrr
  obtain ⟨c, t, hct, hc, hz⟩ := aqY (l := l) hw hn hrr
  rw [hct] at hnum ⊢
  exact ⟨_, _, aoS hl neg hc hz hnum hm⟩
 ·rw [if_neg hp]
  have hne : ds ≠ [] := fun q => hp (.inl q)
  have hd := qS hr
  have hpos := List.length_pos_iff.2 hne
  obtain ⟨h1, h2, h3, h4⟩ := baW (p := (ds.length : Int) + e) (by omega)
  have hw : Digs (ds.take 1) := hd.take 1
  have hn : ds.take 1 ≠ [] := fun q => by
   have := congrArg List.length q
   rw [List.length_take, List.length_nil] at this
   omega
  have hrr : Digs (ds.drop 1) := hd.drop 1
  have hnum := num_exp hl hw hn hrr h1 h2 h3 (decide ((ds.length : Int) + e < 1))
  have hm : mkN neg (ds.take 1 ++ ds.drop 1) ((if decide ((ds.length : Int) + e < 1) = true then -(num ((if (dec (acX ((ds.length : Int) + e))).length < 2 then [48] else []) ++ dec (acX ((ds.length : Int) + e))) : Int) else (num ((if (dec (acX ((ds.length : Int) + e))).length < 2 then [48] else []) ++ dec (acX ((ds.length : Int) + e))) : Int)) - ((ds.drop 1).length : Int)) = ((neg, ds, e), 0) := by
   rw [h4, List.take_append_drop, List.length_drop]
   have hx : (if decide ((ds.length : Int) + e < 1) = true then -(acX ((ds.length : Int) + e) : Int) else (acX ((ds.length : Int) + e) : Int)) - ((ds.length - 1 : Nat) : Int) = e := by
    unfold acX
    by_cases h : (ds.length : Int) + e < 1
    ·rw [if_pos (decide_eq_true h), if_pos h]; omega
    ·rw [if_neg (by simpa using h), if_neg h]; omega
   rw [hx]
   have := apY (neg := neg) hr hne 0 0 (e' := e) (by omega)
   rw [List.replicate_zero, List.nil_append, List.append_nil] at this
   exact this
  rw [beQ]
  obtain ⟨c, t, hct, hc, hz⟩ := aqY (l := l) hw hn hrr
  rw [hct] at hnum ⊢
  have hform : ∀ (z : List UInt8), ((if neg = true then l.minus else []) ++ (c :: t)) ++ [69] ++ [if (ds.length : Int) + e < 1 then 45 else 43] ++ (if (dec (acX ((ds.length : Int) + e))).length < 2 then [48] else []) ++ dec (acX ((ds.length : Int) + e)) =
    (if neg = true then l.minus else []) ++ ((c :: t) ++ [69] ++ ((if decide ((ds.length : Int) + e < 1) = true then 45 else 43) :: ((if (dec (acX ((ds.length : Int) + e))).length < 2 then [48] else []) ++ dec (acX ((ds.length : Int) + e))))) := by
   intro _
   simp only [List.append_assoc, decide_eq_true_eq, List.cons_append, List.nil_append]
  rw [hform []]
  have hz2 : isD (((c :: t) ++ [69] ++ ((if decide ((ds.length : Int) + e < 1) = true then 45 else 43) :: ((if (dec (acX ((ds.length : Int) + e))).length < 2 then [48] else []) ++ dec (acX ((ds.length : Int) + e)))) : List UInt8).getD (t ++ [69] ++ ((if decide ((ds.length : Int) + e < 1) = true then 45 else 43) :: ((if (dec (acX ((ds.length : Int) + e))).length < 2 then [48] else []) ++ dec (acX ((ds.length : Int) + e)))) : List UInt8).length 0) := by
   have hL : (t ++ [69] ++ ((if decide ((ds.length : Int) + e < 1) = true then 45 else 43) :: ((if (dec (acX ((ds.length : Int) + e))).length < 2 then [48] else []) ++ dec (acX ((ds.length : Int) + e)))) : List UInt8).length = ((c :: t) ++ [69] ++ ((if decide ((ds.length : Int) + e < 1) = true then 45 else 43) :: ((if (dec (acX ((ds.length : Int) + e))).length < 2 then [48] else []) ++ dec (acX ((ds.length : Int) + e)))) : List UInt8).length - 1 := by simp
   rw [hL, aeS (by simp)]
   have h5 := amL h1 h2
   generalize ((if (dec (acX ((ds.length : Int) + e))).length < 2 then [48] else []) ++ dec (acX ((ds.length : Int) + e)) : List UInt8) = z at h2 h5 ⊢
   generalize (if decide ((ds.length : Int) + e < 1) = true then (45 : UInt8) else 43) = s
   have h6 := aeS (a := [s]) h2
   show isD (([s] ++ z).getD (([s] ++ z).length - 1) 0)
   rw [h6]; exact h5
  exact ⟨_, _, aoS hl neg hc hz2 hnum hm⟩
theorem amQ {l : Loc} (hl : l.fine) {x : Nat} (hk : qA x < 3) :
  ∃ (k : Nat) (b : Bool), abL l (aaQ yJ (aqH l (abC x 15))) = if qA (abU (abC x 15).1.1 (abC x 15).1.2.1 (abC x 15).1.2.2) = 3 then (EntN.zero, 2) else (⟨abU (abC x 15).1.1 (abC x 15).1.2.1 (abC x 15).1.2.2, 0, k, false, b⟩, 0) := by
 obtain ⟨h1, h2, h3⟩ := awO hk
 have hr := aaK x 15
 have hl2 := afY x 15
 generalize hs : abC x 15 = s at *
 obtain ⟨⟨ng, ds, e⟩, er⟩ := s
 dsimp only at h1 h2 h3 hr hl2 ⊢
 subst h1
 exact gen_read hl hr (by omega) ⟨h2, h3⟩
section
open Go Go.RowKit

inductive PT where
 | done : PT
 | op (i : Nat) (p : Bool) (k : PT) : PT
 | two (i : Nat) (a : PT) (j : Nat) (b : PT) : PT
def PT.size : PT → Nat
 | .done => 0
 | .op _ _ k => k.size + 1
 | .two _ a _ _ => a.size + 1
section
def asB (ops : Array Oper) : PT → Array Bool → Bool
 | .done, listed => (Region.ready .any ops listed).isEmpty
 | .op i p k, listed => (if p then (Region.ready .any ops listed).contains i && Region.free .any ops listed i else Region.ready .any ops listed == [i]) && asB ops k (listed.setIfInBounds i true)
 | .two i a j b, listed => (Region.ready .any ops listed == [i, j]) && (a.size == b.size) && asB ops a (listed.setIfInBounds i true) && asB ops b (listed.setIfInBounds j true)
def ATree (P : Program) (n : Nat) (ops : Array Oper) (Q : Exit → Env → Heap → Prop) : PT → Env → Heap → Prop
 | .done, env, H => Q .normal env H
 | .op i p k, env, H => ∃ o, ops[i]? = some o ∧ fits n o.dst = true ∧
   ((p = true ∧ ∃ x, Steady P ops o env x ∧ ATree P n ops Q k (env.put o.dst x) H) ∨
    (p = false ∧ Wanted ops (Env.only (o.looksAt ops) env) o true ∧ ∃ R, AStep P o (Env.only (o.looksAt ops) env) H R ∧ ∀ x H', R x H' → ATree P n ops Q k (env.put o.dst x) H'))
 | .two i a j b, env, H => XOp P n ops i (ATree P n ops Q a) env H ∧ XOp P n ops j (ATree P n ops Q b) env H
variable {P : Program} {n : Nat} {ops : Array Oper}
theorem acU {Q : Exit → Env → Heap → Prop} : ∀ (t : PT) (listed : Array Bool) (env : Env) (H : Heap), asB ops t listed = true → ATree P n ops Q t env H → XAny P n ops (Q .normal) t.size listed env H
 | .done, listed, env, H, hB, h => ⟨by simpa [asB] using hB, env, fun _ => rfl, h⟩
 | .op i p k, listed, env, H, hB, h => by
  obtain ⟨o, hi, hd, hcase⟩ := h
  simp only [asB, Bool.and_eq_true] at hB
  obtain ⟨hB1, hB2⟩ := hB
  rcases hcase with ⟨rfl, x, hx, hk⟩ | ⟨rfl, hw, R, hx, hk⟩
  ·simp only [if_true, Bool.and_eq_true] at hB1
   exact aiT hi hd k.size listed env H (Region.free_spec hi hB1.2) (by simpa using hB1.1) hx (acU k _ _ H hB2 hk)
  ·simp only [Bool.false_eq_true, if_false, beq_iff_eq] at hB1
   refine ⟨fun h0 => (by rw [hB1] at h0; cases h0), fun j hj => ?_⟩
   rw [hB1] at hj
   have hji : j = i := by simpa using hj
   subst hji
   exact ⟨o, hi, hd, .inr ⟨hw, R, hx, fun y H' hR => acU k _ _ H' hB2 (hk y H' hR)⟩⟩
 | .two i a j b, listed, env, H, hB, h => by
  simp only [asB, Bool.and_eq_true, beq_iff_eq] at hB
  obtain ⟨⟨⟨hrd, hl⟩, hb1⟩, hb2⟩ := hB
  obtain ⟨h1, h2⟩ := h
  refine ⟨fun h0 => (by rw [hrd] at h0; cases h0), fun k hk => ?_⟩
  rw [hrd] at hk
  rcases List.mem_cons.1 hk with rfl | hk
  ·exact h1.mono fun e2 H2 hq => acU a _ e2 H2 hb1 hq
  ·have : k = j := by simpa using hk
   subst this
   rw [hl]
   exact h2.mono fun e2 H2 hq => acU b _ e2 H2 hb2 hq
theorem AWP.drawT {Q : Exit → Env → Heap → Prop} {env : Env} {H : Heap} {id : Nat} {l : List Oper} (t : PT) (hm : P.follows .mixedOrders = true)
  (hB : ((t.size == l.length) && asB l.toArray t (Array.replicate l.length false)) = true) (h : ATree P n l.toArray Q t env H) : AWP P n (.region id l.toArray true) Q env H := by
 intro g a w hr hs
 simp only [Bool.and_eq_true, beq_iff_eq] at hB
 obtain ⟨hlen, hB⟩ := hB
 refine wp_region_any hm ?_
 have hC := acU t _ env H hB h
 rw [hlen] at hC
 rw [show l.toArray.size = l.length by simp]
 exact abX (g0 := g) (fun g' a' w' e H' hle hr' hs' hq => ⟨g', e, H', hle, hr', hs', hq⟩) _ _ g a _ env H (G.le.refl g) hr hs.drew hC
variable {Q : Exit → Env → Heap → Prop} {env : Env} {H : Heap}
theorem ATree.nil (h : Q .normal env H) : ATree P n ops Q .done env H := h
theorem ATree.free {i : Nat} {o : Oper} {r : PT} {x : AV} (hi : ops[i]? = some o) (hw : Wanted ops (Env.only (o.looksAt ops) env) o true) (hd : fits n o.dst = true) (h : atH P o (Env.only (o.looksAt ops) env) x) (hk : ATree P n ops Q r (env.put o.dst x) H) :
  ATree P n ops Q (.op i true r) env H := ⟨o, hi, hd, .inl ⟨rfl, x, .inl ⟨hw, h⟩, hk⟩⟩
theorem ATree.unwanted {i : Nat} {o : Oper} {r : PT} (hi : ops[i]? = some o) (hw : Wanted ops (Env.only (o.looksAt ops) env) o false) (hd : fits n o.dst = true) (hk : ATree P n ops Q r (env.put o.dst (.raw undef)) H) :
  ATree P n ops Q (.op i true r) env H := ⟨o, hi, hd, .inl ⟨rfl, _, .inr ⟨hw, rfl⟩, hk⟩⟩
theorem ATree.step {i : Nat} {o : Oper} {r : PT} {R : AV → Heap → Prop} (hi : ops[i]? = some o) (hw : Wanted ops (Env.only (o.looksAt ops) env) o true) (hd : fits n o.dst = true) (h : AStep P o (Env.only (o.looksAt ops) env) H R)
  (hk : ∀ x H', R x H' → ATree P n ops Q r (env.put o.dst x) H') : ATree P n ops Q (.op i false r) env H := ⟨o, hi, hd, .inr ⟨rfl, hw, R, h, hk⟩⟩
theorem XTree.s {i : Nat} {r : PT} {op : Op} {ty : TypeId} {pos : String} {af : Array Edge} {d : Tmp} {R : AV → Heap → Prop} (hi : ops[i]? = some ⟨some d, op, ty, pos, af, none⟩) (hd : Nat.blt d n = true) (h : AStep P ⟨some d, op, ty, pos, af, none⟩ (Env.only (Oper.looksAt ops ⟨some d, op, ty, pos, af, none⟩) env) H R)
  (k : ∀ x H', R x H' → ATree P n ops Q r ((d, x) :: env) H') : XOp P n ops i (ATree P n ops Q r) env H :=
 ⟨_, hi, hd, .inr ⟨.free rfl, R, h, k⟩⟩
variable {op : Op} {ty : TypeId} {pos : String} {af : Array Edge} {x : AV} {i : Nat} {r : PT}
theorem ATree.p {d : Tmp} (hi : ops[i]? = some ⟨some d, op, ty, pos, af, none⟩) (hd : Nat.blt d n = true) (h : APure P ⟨some d, op, ty, pos, af, none⟩ (Env.only (Oper.looksAt ops ⟨some d, op, ty, pos, af, none⟩) env) x) (k : ATree P n ops Q r ((d, x) :: env) H) : ATree P n ops Q (.op i true r) env H :=
 ATree.free hi (.free rfl) hd h.free k
theorem ATree.f {d : Tmp} (hi : ops[i]? = some ⟨some d, op, ty, pos, af, none⟩) (hd : Nat.blt d n = true) (h : atH P ⟨some d, op, ty, pos, af, none⟩ (Env.only (Oper.looksAt ops ⟨some d, op, ty, pos, af, none⟩) env) x) (k : ATree P n ops Q r ((d, x) :: env) H) : ATree P n ops Q (.op i true r) env H :=
 ATree.free hi (.free rfl) hd h k
theorem ATree.s {d : Tmp} {R : AV → Heap → Prop} (hi : ops[i]? = some ⟨some d, op, ty, pos, af, none⟩) (hd : Nat.blt d n = true) (h : AStep P ⟨some d, op, ty, pos, af, none⟩ (Env.only (Oper.looksAt ops ⟨some d, op, ty, pos, af, none⟩) env) H R) (k : ∀ x H', R x H' → ATree P n ops Q r ((d, x) :: env) H') :
  ATree P n ops Q (.op i false r) env H := ATree.step hi (.free rfl) hd h k
theorem ATree.s0 {R : AV → Heap → Prop} (hi : ops[i]? = some ⟨none, op, ty, pos, af, none⟩) (h : AStep P ⟨none, op, ty, pos, af, none⟩ (Env.only (Oper.looksAt ops ⟨none, op, ty, pos, af, none⟩) env) H R) (k : ∀ x H', R x H' → ATree P n ops Q r env H') :
  ATree P n ops Q (.op i false r) env H := ATree.step hi (.free rfl) rfl h k
theorem ATree.gp {d : Tmp} {e : Tmp} {j : Nat} {want b : Bool} (hi : ops[i]? = some ⟨some d, op, ty, pos, af, some (j, want)⟩) (hd : Nat.blt d n = true) (hg : (ops[j]?).bind (·.dst) = some e) (hb : (Env.only (Oper.looksAt ops ⟨some d, op, ty, pos, af, some (j, want)⟩) env).get? e = some (.bool b)) (hbw : b = want)
  (h : APure P ⟨some d, op, ty, pos, af, some (j, want)⟩ (Env.only (Oper.looksAt ops ⟨some d, op, ty, pos, af, some (j, want)⟩) env) x) (k : ATree P n ops Q r ((d, x) :: env) H) : ATree P n ops Q (.op i true r) env H :=
 ATree.free hi (.yes rfl hg hb hbw) hd h.free k
theorem ATree.gf {d : Tmp} {e : Tmp} {j : Nat} {want b : Bool} (hi : ops[i]? = some ⟨some d, op, ty, pos, af, some (j, want)⟩) (hd : Nat.blt d n = true) (hg : (ops[j]?).bind (·.dst) = some e) (hb : (Env.only (Oper.looksAt ops ⟨some d, op, ty, pos, af, some (j, want)⟩) env).get? e = some (.bool b)) (hbw : b = want)
  (h : atH P ⟨some d, op, ty, pos, af, some (j, want)⟩ (Env.only (Oper.looksAt ops ⟨some d, op, ty, pos, af, some (j, want)⟩) env) x) (k : ATree P n ops Q r ((d, x) :: env) H) : ATree P n ops Q (.op i true r) env H :=
 ATree.free hi (.yes rfl hg hb hbw) hd h k
theorem ATree.gs {d : Tmp} {e : Tmp} {j : Nat} {want b : Bool} {R : AV → Heap → Prop} (hi : ops[i]? = some ⟨some d, op, ty, pos, af, some (j, want)⟩) (hd : Nat.blt d n = true) (hg : (ops[j]?).bind (·.dst) = some e) (hb : (Env.only (Oper.looksAt ops ⟨some d, op, ty, pos, af, some (j, want)⟩) env).get? e = some (.bool b)) (hbw : b = want)
  (h : AStep P ⟨some d, op, ty, pos, af, some (j, want)⟩ (Env.only (Oper.looksAt ops ⟨some d, op, ty, pos, af, some (j, want)⟩) env) H R) (k : ∀ x H', R x H' → ATree P n ops Q r ((d, x) :: env) H') : ATree P n ops Q (.op i false r) env H :=
 ATree.step hi (.yes rfl hg hb hbw) hd h k
theorem ATree.gn {d : Tmp} {e : Tmp} {j : Nat} {want b : Bool} (hi : ops[i]? = some ⟨some d, op, ty, pos, af, some (j, want)⟩) (hd : Nat.blt d n = true) (hg : (ops[j]?).bind (·.dst) = some e) (hb : (Env.only (Oper.looksAt ops ⟨some d, op, ty, pos, af, some (j, want)⟩) env).get? e = some (.bool b)) (hbw : b = !want)
  (k : ATree P n ops Q r ((d, .raw undef) :: env) H) : ATree P n ops Q (.op i true r) env H :=
 ATree.unwanted hi (.no rfl hg hb hbw) hd k

theorem ATree.gdead {d : Tmp} {e : Tmp} {j : Nat} {want : Bool} (hi : ops[i]? = some ⟨some d, op, ty, pos, af, some (j, want)⟩) (hd : Nat.blt d n = true) (hg : (ops[j]?).bind (·.dst) = some e) (hb : (Env.only (Oper.looksAt ops ⟨some d, op, ty, pos, af, some (j, want)⟩) env).get? e = some (.raw undef))
  (k : ATree P n ops Q r ((d, .raw undef) :: env) H) : ATree P n ops Q (.op i true r) env H :=
 ATree.unwanted hi (.dead j want e rfl hg hb) hd k

end
end
section
open Go Go.RowKit

theorem gen_len {l : Loc} (hk : l.ok) {neg : Bool} {ds : List UInt8} {e : Int} (hr : qE ds e = true) (hlen : ds.length ≤ 16) (he : -2000 ≤ e ∧ e ≤ 5000) : (aqH l ((neg, ds, e), 0)).length ≤ 900 := by
 obtain ⟨h1, h2, h3, h4, h5⟩ := hk
 have hm : (if neg = true then l.minus else []).length ≤ 10 := by split; exact h3; simp
 unfold aqH
 simp only [ne_eq, not_true_eq_false, if_false]
 have hp9 := he
 split
 ·rename_i hp
  have hp2 : (ds.length : Int) + e ≤ 15 ∧ -4 ≤ (ds.length : Int) + e := by
   rcases hp with rfl | hp
   ·have : e = 0 := by simpa [qE] using hr
    subst this; exact ⟨by simp, by simp⟩
   ·exact ⟨hp.2, hp.1⟩
  have hs : (qM ds ((ds.length : Int) + e)).1.1.length ≤ 100 ∧ (qM ds ((ds.length : Int) + e)).1.2.length ≤ 100 := by
   unfold qM
   split
   ·simp
   ·split
    ·simp only [List.length_cons, List.length_nil, List.length_append, List.length_replicate]; omega
    ·split
     ·simp only [List.length_nil, List.length_append, List.length_replicate]; omega
     ·simp only [List.length_take, List.length_drop]; omega
  have h6 : (if (qM ds ((ds.length : Int) + e)).1.2 = [] then [] else l.dc ++ (qM ds ((ds.length : Int) + e)).1.2).length ≤ 110 := by
   by_cases q : (qM ds ((ds.length : Int) + e)).1.2 = []
   ·rw [if_pos q]; simp
   ·rw [if_neg q, List.length_append]; omega
  unfold afE
  by_cases q : (qM ds ((ds.length : Int) + e)).2 = true
  ·rw [if_pos q, List.length_append, List.length_append]; omega
  ·rw [if_neg q]; simp
 ·have hd : (dec (acX ((ds.length : Int) + e))).length ≤ 8 := (afV (by decide)).2 (by unfold acX; split <;> omega)
  have h0 : (if (dec (acX ((ds.length : Int) + e))).length < 2 then ([48] : List UInt8) else []).length ≤ 1 := by split <;> simp
  have h6 : (if (1 : Int) < (ds.length : Int) then l.dc ++ ds.drop 1 else []).length ≤ 110 := by
   by_cases q : (1 : Int) < (ds.length : Int)
   ·rw [if_pos q, List.length_append, List.length_drop]; omega
   ·rw [if_neg q]; simp
  unfold anC
  simp only [List.length_append, List.length_cons, List.length_nil, List.length_take]
  omega
theorem bcV {l : Loc} (hk : l.ok) {x : Nat} (hx : qA x < 3) : (aqH l (abC x 15)).length ≤ 900 := by
 obtain ⟨h1, h2, h3⟩ := awO hx
 have hr := aaK x 15
 have hl2 := afY x 15
 generalize hs : abC x 15 = s at *
 obtain ⟨⟨ng, ds, e⟩, er⟩ := s
 dsimp only at h1 h2 h3 hr hl2 ⊢
 subst h1
 exact gen_len hk hr (by omega) ⟨h2, h3⟩
theorem avY {neg : Bool} {ds : List UInt8} {e : Int} (hr : qE ds e = true) : abU neg ds e < 18446744073709551616 := by
 have h := bcR (qS hr) e
 unfold abU aaR
 unfold amC at h
 split <;> omega

set_option maxRecDepth 100000 in
theorem bgP (hsh : ∀ H, ACall Tryz.prog 8 [] H (fun y H' => y = .bool true ∧ H' = H)) (c : Int) (hc : -9223372036854775808 ≤ c ∧ c ≤ 9223372036854775807) (x : Nat) (hx : x < 18446744073709551616) (H : Heap) : ACall Tryz.prog 5 [.int .i64 c, .int .u64 (x : Int)] H (fun y H' => y = .bool true ∧ H' = H) := by
 refine ACall.of_body Tryz.func5 rfl Tryz.ntmps5 Tryz.results5 rfl ?_
 refine .sr (.p rfl (zB zL) (.nr (.cl rfl Tryz.call8 .nil (hsh _) (.as rfl rfl (.ng (.seq (.sr (.mv rfl rfl ?_))))))))
 refine .p rfl (qO (tm rfl)) (.mv rfl rfl (.gp rfl rfl rfl (by rfl) (zE (tm rfl)) (.gs rfl rfl rfl (by rfl) (zQ Tryz.call16 (evs1 rfl) (acH x hx _)) ?_)))
 rintro _ _ ⟨rfl, hH⟩
 obtain rfl := hH.symm
 refine .gp rfl rfl rfl (by rfl) (yW (tm rfl) zD) (.p rfl (zM (tm rfl) (by rfl) (tm rfl)) (.ng ?_))
 refine AWP.cond (tm rfl) (fun hc20 => ?_) (fun hc20 => ?_)
 ·try simp only [decide_eq_true_eq] at hc20
  refine .sr (.mv rfl rfl (.as rfl rfl (.ng (.ret ?_))))
  refine Next.rt ?_
  refine Ret.go (.cons (.tmp _ _ rfl) .nil) _ (Heap.le.refl _) ?_
  exact ⟨rfl, rfl⟩
 ·try simp only [decide_eq_false_iff_not, Int.not_le] at hc20
  have hk3 : qA x < 3 := by omega
  refine .skip ?_
  refine Next.go ?_
  refine .sr (.mv rfl rfl (.s rfl (zQ Tryz.call9 (evs1 rfl) (avJ c hc _)) ?_))
  rintro _ _ ⟨⟨l, hlm, rfl⟩, hH⟩
  obtain rfl := hH.symm
  have hk := aeZ l hlm
  have hgr := afA l hlm
  have hgl := bcV hk hk3
  refine .mv rfl rfl (.p rfl (zC (tm rfl) rfl) (.p rfl (zC (tm rfl) rfl) (.s rfl (zR Tryz.zeroValue25 (zr25)) ?_)))
  rintro _ _ ⟨b6, hb6, rfl, hH⟩
  obtain rfl := hH.symm
  refine .s rfl (zR Tryz.zeroValue27 (zr27)) ?_
  rintro _ _ ⟨b7, hb7, rfl, hH⟩
  obtain rfl := hH.symm
  have hn6_7 := Heap.ne_of (Heap.objs_set_same _ _ _) hb7
  refine .e0 (zH Tryz.sizeOf25 (tm rfl) (tm rfl) rfl rfl (.inr ⟨_, rfl⟩) ((Heap.objs_set_ne _ _ (by assumption)).trans (Heap.objs_set_same _ _ _)) (Nat.le_of_ble_eq_true rfl)) ?_
  try first | rw [Heap.set_set] | rw [Heap.set_under (by assumption)]
  refine .e0 (zH Tryz.sizeOf27 (tm rfl) (tm rfl) rfl rfl (.inr ⟨_, rfl⟩) (Heap.objs_set_same _ _ _) (Nat.le_of_ble_eq_true rfl)) ?_
  try first | rw [Heap.set_set] | rw [Heap.set_under (by assumption)]
  refine .ng ?_
  refine AWP.frz (t := 7) rfl (Heap.fresh_set hb7 _) ?_
  refine AWP.frz (t := 6) rfl (hb6) ?_
  refine .seq ?_
  refine AWP.drawT (.op 0 true (.op 2 true (.op 3 true (.two 1 (.op 4 true (.two 5 (.op 6 true (.op 7 true (.op 8 true (.op 9 false (.op 10 false (.op 11 true .done)))))) 9 (.op 5 false (.op 6 true (.op 7 true (.op 8 true (.op 10 false (.op 11 true .done)))))))) 9 (.op 1 false (.op 4 true (.op 5 false (.op 6 true (.op 7 true (.op 8 true (.op 10 false (.op 11 true .done)))))))))))) rfl (by decide +kernel) ?_
  refine ATree.p rfl rfl (zY Tryz.isAgg25 Tryz.sizeOf25 (tm rfl) (Nat.le_of_ble_eq_true rfl)) ?_
  refine ATree.p rfl rfl (zE (tm rfl)) ?_
  refine ATree.p rfl rfl (zY Tryz.isAgg25 Tryz.sizeOf25 (tm rfl) (Nat.le_of_ble_eq_true rfl)) ?_
  refine ⟨?_, ?_⟩
  ·refine XTree.s rfl rfl (zQ Tryz.call10 (evs1 rfl) (agI l _)) ?_
   rintro _ _ ⟨b, hb0, rfl, rfl⟩
   refine ATree.f rfl rfl (fun _ => zQ Tryz.call14 (evs2 rfl rfl) (adC l hk _ x hx _)) ?_
   refine ⟨?_, ?_⟩
   ·refine XTree.s rfl rfl (zQ Tryz.call11 (evs2 rfl rfl) (aaW l hk hgr agS afS (aqH l (abC x 15)) (by omega) b _ (Heap.objs_set_same _ _ _))) ?_
    rintro _ _ ⟨rfl, f1, hf1, rfl⟩
    rw [Heap.set_set]
    obtain ⟨kp, bx, hbk⟩ := amQ (alY l hlm) hk3
    generalize abL l (aaQ yJ (aqH l (abC x 15))) = ou at hbk ⊢
    obtain ⟨o, er⟩ := ou
    dsimp only
    refine ATree.p rfl rfl (zE (tm rfl)) ?_
    refine ATree.p rfl rfl (zC (tm rfl) rfl) ?_
    refine ATree.p rfl rfl (zC (tm rfl) rfl) ?_
    refine ATree.s rfl rfl (zR Tryz.zeroValue32 (zr32)) ?_
    rintro _ _ ⟨b8, hb8, rfl, hH⟩
    obtain rfl := hH.symm
    refine ATree.s0 rfl (zH Tryz.sizeOf32 (tm rfl) (tm rfl) rfl rfl (.inr ⟨_, rfl⟩) (Heap.objs_set_same _ _ _) (Nat.le_of_ble_eq_true rfl)) ?_
    rintro _ _ ⟨rfl, hH⟩
    obtain rfl := hH.symm
    try first | rw [Heap.set_set] | rw [Heap.set_under (by assumption)]
    refine ATree.p rfl rfl (zB (tm rfl)) ?_
    refine ATree.nil ?_
    refine Next.go ?_
    refine AWP.frz (t := 8) rfl (hb8) ?_
    refine .sr (.mv rfl rfl (.cl rfl Tryz.call17 (.cons (tm rfl) (.cons zD (.cons zD .nil))) (agW x hx 15 (by decide) (by decide) _) (.mv rfl rfl (.p rfl (zC (tm rfl) rfl) (.p rfl (zC (tm rfl) rfl) (.s rfl (zR Tryz.zeroValue48 (zr48)) ?_))))))
    rintro _ _ ⟨b10, hb10, rfl, hH⟩
    obtain rfl := hH.symm
    refine .e0 (zH Tryz.sizeOf48 (tm rfl) (tm rfl) rfl rfl (.inr ⟨_, rfl⟩) (Heap.objs_set_same _ _ _) (Nat.le_of_ble_eq_true rfl)) ?_
    try first | rw [Heap.set_set] | rw [Heap.set_under (by assumption)]
    refine .as rfl rfl (.ng ?_)
    refine AWP.frz (t := 10) rfl (hb10) ?_
    refine .sr (.p rfl (zY Tryz.isAgg48 Tryz.sizeOf48 (tm rfl) (Nat.le_of_ble_eq_true rfl)) ?_)
    refine .cl rfl Tryz.call18 (evs1 rfl) (afQ _ _ _ (aaK x 15) (by have := afY x 15; omega) _) ?_
    rw [alF (aaK x 15)]
    refine .as rfl rfl (.ng (.seq (.sr (.mv rfl rfl (.cl rfl Tryz.call16 (evs1 rfl) (acH _ (avY (aaK x 15)) _) (.p rfl (zX (tm rfl) zD) (.ng ?_)))))))
    refine AWP.cond (tm rfl) (fun hc45 => ?_) (fun hc45 => ?_)
    ·try simp only [decide_eq_true_eq] at hc45
     have hk4 : qA (abU (abC x 15).1.1 (abC x 15).1.2.1 (abC x 15).1.2.2) = 3 := by omega
     rw [if_pos hk4] at hbk
     injection hbk with hb1 hb2
     subst hb2
     refine .sr (.mv rfl rfl (.p rfl (zX (tm rfl) zD) (.as rfl rfl (.ng (.ret ?_)))))
     refine Next.rt ?_
     refine Ret.go (.cons (.tmp _ _ rfl) .nil) H (Heap.le_set hb0 _) ?_
     exact ⟨rfl, rfl⟩
    ·try simp only [decide_eq_false_iff_not] at hc45
     have hk4 : ¬ qA (abU (abC x 15).1.1 (abC x 15).1.2.1 (abC x 15).1.2.2) = 3 := by omega
     rw [if_neg hk4] at hbk
     injection hbk with hb1 hb2
     subst hb1 hb2
     have hq1 : decide (((abU (abC x 15).1.1 (abC x 15).1.2.1 (abC x 15).1.2.2 : Nat) : Int) = ((abU (abC x 15).1.1 (abC x 15).1.2.1 (abC x 15).1.2.2 : Nat) : Int)) = true := decide_eq_true rfl
     refine .skip ?_
     refine Next.go ?_
     refine .sr (.mv rfl rfl (.p rfl (zX (tm rfl) zD) (.mv rfl rfl (.gp rfl rfl rfl (by rfl) (zG Tryz.underlying32 rfl Tryz.sizeOf30 (tm rfl)) (.gp rfl rfl rfl (by rfl) (zF Tryz.isAgg30 (tm rfl)) (.gp rfl rfl rfl (by rfl) (zE (tm rfl)) (.gp rfl rfl rfl (by rfl) (zX (tm rfl) (tm rfl)) (.p rfl (zO (tm rfl) (by rfl) (tm rfl)) ?_))))))))
     refine .mv rfl rfl (.gp rfl rfl rfl (by assumption) (zG Tryz.underlying32 rfl Tryz.sizeOf3 (tm rfl)) (.gp rfl rfl rfl (by assumption) (zF Tryz.isAgg3 (tm rfl)) (.gp rfl rfl rfl (by assumption) (zX (tm rfl) zD) (.p rfl (zO (tm rfl) (by assumption) (tm rfl)) (.mv rfl rfl (.gp rfl rfl rfl (by rfl) (zG Tryz.underlying32 rfl Tryz.sizeOf4 (tm rfl)) (.gp rfl rfl rfl (by rfl) (zF Tryz.isAgg4 (tm rfl)) (.gp rfl rfl rfl (by rfl) (qO (tm rfl)) ?_))))))))
     refine .p rfl (zO (tm rfl) (by rfl) (tm rfl)) (.as rfl rfl (.ng (.ret ?_)))
     refine Ret.go (.cons (.tmp _ _ rfl) .nil) H (Heap.le_set hb0 _) ?_
     exact ⟨rfl, rfl⟩
   ·refine XTree.s rfl rfl (zR Tryz.zeroValue32 (zr32)) ?_
    rintro _ _ ⟨b8, hb8, rfl, hH⟩
    obtain rfl := hH.symm
    refine ATree.s rfl rfl (zQ Tryz.call11 (evs2 rfl rfl) (aaW l hk hgr agS afS (aqH l (abC x 15)) (by omega) b _ ((Heap.objs_set_ne _ _ (Heap.fresh_ne (by assumption))).trans (Heap.objs_set_same _ _ _)))) ?_
    rintro _ _ ⟨rfl, f1, hf1, rfl⟩
    rw [Heap.set_under (Heap.fresh_ne hb8)]
    obtain ⟨kp, bx, hbk⟩ := amQ (alY l hlm) hk3
    generalize abL l (aaQ yJ (aqH l (abC x 15))) = ou at hbk ⊢
    obtain ⟨o, er⟩ := ou
    dsimp only
    refine ATree.p rfl rfl (zE (tm rfl)) ?_
    refine ATree.p rfl rfl (zC (tm rfl) rfl) ?_
    refine ATree.p rfl rfl (zC (tm rfl) rfl) ?_
    refine ATree.s0 rfl (zH Tryz.sizeOf32 (tm rfl) (tm rfl) rfl rfl (.inr ⟨_, rfl⟩) (Heap.objs_set_same _ _ _) (Nat.le_of_ble_eq_true rfl)) ?_
    rintro _ _ ⟨rfl, hH⟩
    obtain rfl := hH.symm
    try first | rw [Heap.set_set] | rw [Heap.set_under (by assumption)]
    refine ATree.p rfl rfl (zB (tm rfl)) ?_
    refine ATree.nil ?_
    refine Next.go ?_
    refine AWP.frz (t := 8) rfl (Heap.fresh_set hb8 _) ?_
    refine .sr (.mv rfl rfl (.cl rfl Tryz.call17 (.cons (tm rfl) (.cons zD (.cons zD .nil))) (agW x hx 15 (by decide) (by decide) _) (.mv rfl rfl (.p rfl (zC (tm rfl) rfl) (.p rfl (zC (tm rfl) rfl) (.s rfl (zR Tryz.zeroValue48 (zr48)) ?_))))))
    rintro _ _ ⟨b10, hb10, rfl, hH⟩
    obtain rfl := hH.symm
    refine .e0 (zH Tryz.sizeOf48 (tm rfl) (tm rfl) rfl rfl (.inr ⟨_, rfl⟩) (Heap.objs_set_same _ _ _) (Nat.le_of_ble_eq_true rfl)) ?_
    try first | rw [Heap.set_set] | rw [Heap.set_under (by assumption)]
    refine .as rfl rfl (.ng ?_)
    refine AWP.frz (t := 10) rfl (hb10) ?_
    refine .sr (.p rfl (zY Tryz.isAgg48 Tryz.sizeOf48 (tm rfl) (Nat.le_of_ble_eq_true rfl)) ?_)
    refine .cl rfl Tryz.call18 (evs1 rfl) (afQ _ _ _ (aaK x 15) (by have := afY x 15; omega) _) ?_
    rw [alF (aaK x 15)]
    refine .as rfl rfl (.ng (.seq (.sr (.mv rfl rfl (.cl rfl Tryz.call16 (evs1 rfl) (acH _ (avY (aaK x 15)) _) (.p rfl (zX (tm rfl) zD) (.ng ?_)))))))
    refine AWP.cond (tm rfl) (fun hc45 => ?_) (fun hc45 => ?_)
    ·try simp only [decide_eq_true_eq] at hc45
     have hk4 : qA (abU (abC x 15).1.1 (abC x 15).1.2.1 (abC x 15).1.2.2) = 3 := by omega
     rw [if_pos hk4] at hbk
     injection hbk with hb1 hb2
     subst hb2
     refine .sr (.mv rfl rfl (.p rfl (zX (tm rfl) zD) (.as rfl rfl (.ng (.ret ?_)))))
     refine Next.rt ?_
     refine Ret.go (.cons (.tmp _ _ rfl) .nil) H (Heap.le_set hb0 _) ?_
     exact ⟨rfl, rfl⟩
    ·try simp only [decide_eq_false_iff_not] at hc45
     have hk4 : ¬ qA (abU (abC x 15).1.1 (abC x 15).1.2.1 (abC x 15).1.2.2) = 3 := by omega
     rw [if_neg hk4] at hbk
     injection hbk with hb1 hb2
     subst hb1 hb2
     have hq1 : decide (((abU (abC x 15).1.1 (abC x 15).1.2.1 (abC x 15).1.2.2 : Nat) : Int) = ((abU (abC x 15).1.1 (abC x 15).1.2.1 (abC x 15).1.2.2 : Nat) : Int)) = true := decide_eq_true rfl
     refine .skip ?_
     refine Next.go ?_
     refine .sr (.mv rfl rfl (.p rfl (zX (tm rfl) zD) (.mv rfl rfl (.gp rfl rfl rfl (by rfl) (zG Tryz.underlying32 rfl Tryz.sizeOf30 (tm rfl)) (.gp rfl rfl rfl (by rfl) (zF Tryz.isAgg30 (tm rfl)) (.gp rfl rfl rfl (by rfl) (zE (tm rfl)) (.gp rfl rfl rfl (by rfl) (zX (tm rfl) (tm rfl)) (.p rfl (zO (tm rfl) (by rfl) (tm rfl)) ?_))))))))
     refine .mv rfl rfl (.gp rfl rfl rfl (by assumption) (zG Tryz.underlying32 rfl Tryz.sizeOf3 (tm rfl)) (.gp rfl rfl rfl (by assumption) (zF Tryz.isAgg3 (tm rfl)) (.gp rfl rfl rfl (by assumption) (zX (tm rfl) zD) (.p rfl (zO (tm rfl) (by assumption) (tm rfl)) (.mv rfl rfl (.gp rfl rfl rfl (by rfl) (zG Tryz.underlying32 rfl Tryz.sizeOf4 (tm rfl)) (.gp rfl rfl rfl (by rfl) (zF Tryz.isAgg4 (tm rfl)) (.gp rfl rfl rfl (by rfl) (qO (tm rfl)) ?_))))))))
     refine .p rfl (zO (tm rfl) (by rfl) (tm rfl)) (.as rfl rfl (.ng (.ret ?_)))
     refine Ret.go (.cons (.tmp _ _ rfl) .nil) H (Heap.le_set hb0 _) ?_
     exact ⟨rfl, rfl⟩
  ·refine XTree.s rfl rfl (zR Tryz.zeroValue32 (zr32)) ?_
   rintro _ _ ⟨b8, hb8, rfl, hH⟩
   obtain rfl := hH.symm
   refine ATree.s rfl rfl (zQ Tryz.call10 (evs1 rfl) (agI l _)) ?_
   rintro _ _ ⟨b, hb0, rfl, rfl⟩
   refine ATree.f rfl rfl (fun _ => zQ Tryz.call14 (evs2 rfl rfl) (adC l hk _ x hx _)) ?_
   refine ATree.s rfl rfl (zQ Tryz.call11 (evs2 rfl rfl) (aaW l hk hgr agS afS (aqH l (abC x 15)) (by omega) b _ (Heap.objs_set_same _ _ _))) ?_
   rintro _ _ ⟨rfl, f1, hf1, rfl⟩
   have hne := Heap.fresh_ne hb0
   rw [Heap.set_set, Heap.set_comm hne]
   rw [Heap.objs_set_ne _ _ (Ne.symm hne)] at hb0
   replace hb8 : (H.set b (.box 129 (abN f1))).objs b8 = none := (Heap.objs_set_ne _ _ hne).trans hb8
   obtain ⟨kp, bx, hbk⟩ := amQ (alY l hlm) hk3
   generalize abL l (aaQ yJ (aqH l (abC x 15))) = ou at hbk ⊢
   obtain ⟨o, er⟩ := ou
   dsimp only
   refine ATree.p rfl rfl (zE (tm rfl)) ?_
   refine ATree.p rfl rfl (zC (tm rfl) rfl) ?_
   refine ATree.p rfl rfl (zC (tm rfl) rfl) ?_
   refine ATree.s0 rfl (zH Tryz.sizeOf32 (tm rfl) (tm rfl) rfl rfl (.inr ⟨_, rfl⟩) (Heap.objs_set_same _ _ _) (Nat.le_of_ble_eq_true rfl)) ?_
   rintro _ _ ⟨rfl, hH⟩
   obtain rfl := hH.symm
   try first | rw [Heap.set_set] | rw [Heap.set_under (by assumption)]
   refine ATree.p rfl rfl (zB (tm rfl)) ?_
   refine ATree.nil ?_
   refine Next.go ?_
   refine AWP.frz (t := 8) rfl (hb8) ?_
   refine .sr (.mv rfl rfl (.cl rfl Tryz.call17 (.cons (tm rfl) (.cons zD (.cons zD .nil))) (agW x hx 15 (by decide) (by decide) _) (.mv rfl rfl (.p rfl (zC (tm rfl) rfl) (.p rfl (zC (tm rfl) rfl) (.s rfl (zR Tryz.zeroValue48 (zr48)) ?_))))))
   rintro _ _ ⟨b10, hb10, rfl, hH⟩
   obtain rfl := hH.symm
   refine .e0 (zH Tryz.sizeOf48 (tm rfl) (tm rfl) rfl rfl (.inr ⟨_, rfl⟩) (Heap.objs_set_same _ _ _) (Nat.le_of_ble_eq_true rfl)) ?_
   try first | rw [Heap.set_set] | rw [Heap.set_under (by assumption)]
   refine .as rfl rfl (.ng ?_)
   refine AWP.frz (t := 10) rfl (hb10) ?_
   refine .sr (.p rfl (zY Tryz.isAgg48 Tryz.sizeOf48 (tm rfl) (Nat.le_of_ble_eq_true rfl)) ?_)
   refine .cl rfl Tryz.call18 (evs1 rfl) (afQ _ _ _ (aaK x 15) (by have := afY x 15; omega) _) ?_
   rw [alF (aaK x 15)]
   refine .as rfl rfl (.ng (.seq (.sr (.mv rfl rfl (.cl rfl Tryz.call16 (evs1 rfl) (acH _ (avY (aaK x 15)) _) (.p rfl (zX (tm rfl) zD) (.ng ?_)))))))
   refine AWP.cond (tm rfl) (fun hc45 => ?_) (fun hc45 => ?_)
   ·try simp only [decide_eq_true_eq] at hc45
    have hk4 : qA (abU (abC x 15).1.1 (abC x 15).1.2.1 (abC x 15).1.2.2) = 3 := by omega
    rw [if_pos hk4] at hbk
    injection hbk with hb1 hb2
    subst hb2
    refine .sr (.mv rfl rfl (.p rfl (zX (tm rfl) zD) (.as rfl rfl (.ng (.ret ?_)))))
    refine Next.rt ?_
    refine Ret.go (.cons (.tmp _ _ rfl) .nil) H (Heap.le_set hb0 _) ?_
    exact ⟨rfl, rfl⟩
   ·try simp only [decide_eq_false_iff_not] at hc45
    have hk4 : ¬ qA (abU (abC x 15).1.1 (abC x 15).1.2.1 (abC x 15).1.2.2) = 3 := by omega
    rw [if_neg hk4] at hbk
    injection hbk with hb1 hb2
    subst hb1 hb2
    have hq1 : decide (((abU (abC x 15).1.1 (abC x 15).1.2.1 (abC x 15).1.2.2 : Nat) : Int) = ((abU (abC x 15).1.1 (abC x 15).1.2.1 (abC x 15).1.2.2 : Nat) : Int)) = true := decide_eq_true rfl
    refine .skip ?_
    refine Next.go ?_
    refine .sr (.mv rfl rfl (.p rfl (zX (tm rfl) zD) (.mv rfl rfl (.gp rfl rfl rfl (by rfl) (zG Tryz.underlying32 rfl Tryz.sizeOf30 (tm rfl)) (.gp rfl rfl rfl (by rfl) (zF Tryz.isAgg30 (tm rfl)) (.gp rfl rfl rfl (by rfl) (zE (tm rfl)) (.gp rfl rfl rfl (by rfl) (zX (tm rfl) (tm rfl)) (.p rfl (zO (tm rfl) (by rfl) (tm rfl)) ?_))))))))
    refine .mv rfl rfl (.gp rfl rfl rfl (by assumption) (zG Tryz.underlying32 rfl Tryz.sizeOf3 (tm rfl)) (.gp rfl rfl rfl (by assumption) (zF Tryz.isAgg3 (tm rfl)) (.gp rfl rfl rfl (by assumption) (zX (tm rfl) zD) (.p rfl (zO (tm rfl) (by assumption) (tm rfl)) (.mv rfl rfl (.gp rfl rfl rfl (by rfl) (zG Tryz.underlying32 rfl Tryz.sizeOf4 (tm rfl)) (.gp rfl rfl rfl (by rfl) (zF Tryz.isAgg4 (tm rfl)) (.gp rfl rfl rfl (by rfl) (qO (tm rfl)) ?_))))))))
    refine .p rfl (zO (tm rfl) (by rfl) (tm rfl)) (.as rfl rfl (.ng (.ret ?_)))
    refine Ret.go (.cons (.tmp _ _ rfl) .nil) H (Heap.le_set hb0 _) ?_
    exact ⟨rfl, rfl⟩

end
end Go.Proofs.YtfkeflcdadlmdaaGreatDoor
