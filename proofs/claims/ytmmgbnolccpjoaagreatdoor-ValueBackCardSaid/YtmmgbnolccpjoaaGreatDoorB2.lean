import Derived.Test.YtmmgbnolccpjoaaGreatDoorB1
import Derived.Test.YtmmgbnolccpjoaaGreatDoorV4
namespace Go.Proofs.YtmmgbnolccpjoaaGreatDoor
open Go Go.RowKit Go.Lib

variable {c : UInt8} {ds r t w z : List UInt8} {l : Loc} {neg : Bool}
theorem afY {s : List UInt8} (h : s.head? ≠ some c) : hasPrefix s (c :: r) = false := by
 unfold hasPrefix
 cases s with
 | nil => rfl
 | cons b t =>
  have : c ≠ b := fun e => h (by rw [e]; rfl)
  simp [List.isPrefixOf, this]
theorem aiC {c : UInt8} {r : List UInt8} : ∀ {s : List UInt8}, c ∉ s → index s (c :: r) = -1
 | [], _ => rfl
 | b :: t, h => by
  have h1 := afY (c := c) (r := r) (s := b :: t) (fun e => h (by injection e with e; rw [e]; simp))
  have h2 := aiC (c := c) (r := r) (s := t) (fun q => h (by simp [q]))
  unfold hasPrefix at h1
  unfold index
  rw [h1, h2]; rfl
theorem amK {c : UInt8} {r z : List UInt8} : ∀ {w : List UInt8}, c ∉ w → index (w ++ (c :: r) ++ z) (c :: r) = (w.length : Int)
 | [], _ => by
  show index (c :: (r ++ z)) (c :: r) = 0
  unfold index
  rw [aO (by simp [List.isPrefixOf])]
 | b :: t, h => by
  have h1 := afY (c := c) (r := r) (s := b :: (t ++ (c :: r) ++ z)) (fun e => h (by injection e with e; rw [e]; simp))
  have h2 := amK (c := c) (r := r) (z := z) (w := t) (fun q => h (by simp [q]))
  unfold hasPrefix at h1
  show index (b :: (t ++ (c :: r) ++ z)) (c :: r) = _
  unfold index
  rw [h1, h2, aN (by decide)]
  rw [aN (by rw [beq_iff_eq]; omega), bE]; omega
theorem aqX {old new s : List UInt8} (h : index s old = -1) : ∀ k, replaceK old new k s = s
 | 0 => rfl
 | k + 1 => by rw [replaceK, aO (by rw [h]; rfl)]
theorem avJ {old new s : List UInt8} (h : index s old = -1) : replaceAll s old new = s := by
 unfold replaceAll replace
 split
 ·rfl
 exact aqX h _
theorem repl_one {d : UInt8} {m : List UInt8} (hm : c ∉ m) (hz : c ∉ z) : replaceAll (m ++ [c] ++ z) [c] [d] = m ++ [d] ++ z := by
 have hi := amK (c := c) (r := []) (z := z) hm
 unfold replaceAll replace
 split
 ·grind
 unfold replaceNum
 rw [aO (.inl (by decide))]
 unfold count
 rw [countFrom, aN (by rw [hi, beq_iff_eq]; omega), eL 1, replaceK_hit _ _ _ _ _ hi]
 rw [aqX (by
   have : (m ++ [c] ++ z).drop (m.length + [c].length) = z := by rw [show m.length + [c].length = (m ++ [c]).length by simp]; exact List.drop_left
   rw [this]; exact aiC hz)]
 congr 1
 ·grind
 grind
theorem eAt_none {s : List UInt8} (h : (69 : UInt8) ∉ s) (h2 : (101 : UInt8) ∉ s) : eAt s = -1 := by
 unfold eAt
 rw [avJ (aiC h), ← index_one, aiC h2]
theorem eAt_some {m : List UInt8} (h : (69 : UInt8) ∉ m) (h2 : (101 : UInt8) ∉ m) (hz : (69 : UInt8) ∉ z) : eAt (m ++ [69] ++ z) = (m.length : Int) := by
 unfold eAt
 rw [repl_one h hz, ← index_one, amK h2]
theorem cut_none {s : List UInt8} (h : c ∉ s) : cut s (c :: r) = (s, [], false) := by
 unfold cut
 rw [aiC h, aN (by decide)]
theorem cut_some (h : c ∉ w) : cut (w ++ (c :: r) ++ z) (c :: r) = (w, z, true) := by
 unfold cut
 rw [amK h, aO (by omega)]
 have e1 : (w ++ (c :: r) ++ z).take w.length = w := by rw [bV, List.take_left]
 have e2 : (w ++ (c :: r) ++ z).drop (w.length + (c :: r).length) = z := by rw [show w.length + (c :: r).length = (w ++ (c :: r)).length by simp]; exact List.drop_left
 rw [eE, e1, e2]
theorem afK {s : List UInt8} (hd : Digs s) (hc : ¬ isD c) : c ∉ s := fun h => hc (hd c h)
theorem bmI {s : List UInt8} (hd : Digs s) : abA adY s.length s = [] := (aeJ s.length s (aX _)).2 hd
structure Loc.fine (l : Loc) : Prop where
 dc : ∃ c, l.dc = [c] ∧ ¬ isD c ∧ c ≠ 69 ∧ c ≠ 101
 grp : ∃ c r, l.grp = c :: r ∧ ¬ isD c ∧ (∀ d, l.dc = [d] → c ≠ d)
 minus : ∃ c r, l.minus = c :: r ∧ ¬ isD c ∧ c ≠ 43 ∧ c ≠ 40 ∧ (c = 45 → r = []) ∧ ∀ z, yL (decodeL (l.minus ++ z)).1 = false
 cur : ∃ c r, l.cur = c :: r ∧ ¬ isD c ∧ ¬ isD ((c :: r).getD r.length 0)
 pct : l.pct = [37]
theorem notD (h : c.toNat < 48 ∨ 57 < c.toNat) : ¬ isD c := fun q => by unfold isD at q; omega
theorem minus_sv (z : List UInt8) : yL (decodeL (([226, 136, 146] : List UInt8) ++ z)).1 = false := by
 have : decodeL (([226, 136, 146] : List UInt8) ++ z) = (8722, 3) := by
  rw [decodeL_N]
  simp only [eT, cT, dQ, dS, bE]
  unfold decodeN
  simp
 rw [this]; decide
theorem minus_hy (z : List UInt8) : yL (decodeL (([45] : List UInt8) ++ z)).1 = false := by
 have : decodeL (([45] : List UInt8) ++ z) = (45, 1) := by rw [decodeL_N]; exact decodeN_ascii _ _ _ _ _ (show (45 : UInt8).toNat < 128 by decide)
 rw [this]; decide
theorem blE : ∀ l ∈ locs, l.fine := by
 intro l hl
 simp only [locs, cQ, fL, or_false] at hl
 rcases hl with rfl | rfl | rfl | rfl | rfl | rfl
 all_goals exact { dc := ⟨_, rfl, notD (by decide), by decide, by decide⟩, grp := ⟨_, _, rfl, notD (by decide), fun d hd => by injection hd with hd; subst hd; decide⟩, minus := ⟨_, _, rfl, notD (by decide), by decide, by decide, by decide, by first | exact minus_hy | exact minus_sv⟩, cur := ⟨_, _, rfl, notD (by decide), notD (by decide)⟩, pct := rfl }
theorem arZ (h : isD c) : decodeL (c :: t) = (c.toNat, 1) := by
 rw [decodeL_N]; exact decodeN_ascii _ _ _ _ _ (show c.toNat < 128 by unfold isD at h; omega)
theorem ajD (h : isD c) : yL c.toNat = false := by
 unfold isD at h
 unfold yL
 simp only [cP, beq_eq_false_iff_ne]
 omega
theorem aqI {s : List UInt8} (h : s = [] ∨ yL (decodeL s).1 = false) (f : Nat) : abA yL f s = s := by
 cases f with
 | zero => rfl
 | succ f =>
  by_cases h0 : s = []
  ·subst h0; exact akL _ _
  rcases h with h | h
  ·grind
  rw [amU _ _ h0, aN (by rw [h]; decide)]
theorem bdY {s : List UInt8} (h : isD (s.getD (s.length - 1) 0)) (f : Nat) : abQ yL f s = s := by
 cases f with
 | zero => rfl
 | succ f =>
  by_cases h0 : s = []
  ·subst h0; exact acO _ _
  rw [axY _ _ h0]
  have hr : decodeLastL s = ((s.getD (s.length - 1) 0).toNat, 1) := by
   unfold decodeLastL
   rw [aN h0, aO (by have := h; unfold isD at this; omega)]
  rw [hr, aN (by rw [ajD h]; decide)]
theorem biF {s : List UInt8} (h : s = [] ∨ yL (decodeL s).1 = false) (h2 : isD (s.getD (s.length - 1) 0)) : abT yL s = s := by
 unfold abT
 rw [aqI h, bdY h2]
theorem awL {p s : List UInt8} (hp : p ≠ []) (h : p.getD (p.length - 1) 0 ≠ s.getD (s.length - 1) 0) : hasSuffix s p = false := by
 unfold hasSuffix
 rw [Bool.eq_false_iff]
 intro q
 rw [List.isSuffixOf_iff_suffix] at q
 obtain ⟨t, rfl⟩ := q
 apply h
 have hl := cI.2 hp
 rw [aP, aP, eN (by rw [aS]; omega), aS, show t.length + p.length - 1 - t.length = p.length - 1 by omega]
theorem agA {a b : List UInt8} (h : b ≠ []) : (a ++ b).getD ((a ++ b).length - 1) 0 = b.getD (b.length - 1) 0 := by
 have hl := cI.2 h
 rw [aP, aP, eN (by rw [aS]; omega), aS, show a.length + b.length - 1 - a.length = b.length - 1 by omega]
theorem apA {b : List UInt8} (hd : Digs b) (h : b ≠ []) : isD (b.getD (b.length - 1) 0) := by
 have hl := cI.2 h
 rw [aP, bF (by omega)]
 exact hd _ (eJ _)
def afN (l : Loc) (w r : List UInt8) : List UInt8 := w ++ (if r = [] then [] else l.dc ++ r)
theorem axF (hl : l.fine) (hw : Digs w) (hn : w ≠ []) (hr : Digs r) : alW l (afN l w r) = some (w ++ r, r.length, false) := by
 obtain ⟨c, hdc, hc, _, _⟩ := hl.dc
 obtain ⟨g, q, hg, hgc, _⟩ := hl.grp
 have hcut : (cut (afN l w r) l.dc).1 = w ∧ (cut (afN l w r) l.dc).2.1 = r := by
  unfold afN
  rw [hdc]
  split
  ·rename_i h0
   rw [cS, cut_none (afK hw hc), h0]; exact ⟨rfl, rfl⟩
  rw [← bV, cut_some (afK hw hc)]; exact ⟨rfl, rfl⟩
 have hbad : badB w r = false := by
  unfold badB
  rw [bG hn, Bool.false_and, Bool.false_or]
  exact bG (fun q => q (bmI hr))
 have hrep : replaceAll w l.grp [] = w := by rw [hg]; exact avJ (aiC (afK hw hgc))
 have hwh : aeI l w = some (w, false) := by
  unfold aeI ahA
  rw [aN hn, hrep, aN (by rintro (h | h); exact hn h; exact absurd (adL.2 hw) (by rw [h]; decide)), aN (by rintro ⟨h, _⟩; exact h rfl)]
  simp
 unfold alW
 rw [hcut.1, hcut.2, hbad, aN (by decide), hwh]
theorem bbH (hl : l.fine) (hw : Digs w) (hr : Digs r) : (69 : UInt8) ∉ afN l w r ∧ (101 : UInt8) ∉ afN l w r := by
 obtain ⟨c, hdc, hc, h1, h2⟩ := hl.dc
 have n1 : ¬ isD 69 := notD (by decide)
 have n2 : ¬ isD 101 := notD (by decide)
 unfold afN
 rw [hdc]
 constructor
 ·intro h
  rcases eF.1 h with h | h
  ·exact afK hw n1 h
  split at h
  ·simp at h
  rcases eF.1 h with h | h
  ·grind
  exact afK hr n1 h
 intro h
 rcases eF.1 h with h | h
 ·exact afK hw n2 h
 split at h
 ·simp at h
 rcases eF.1 h with h | h
 ·grind
 exact afK hr n2 h
theorem bkM (hl : l.fine) (hw : Digs w) (hn : w ≠ []) (hr : Digs r) : aoI l (afN l w r) = some (w ++ r, -(r.length : Int), r.length, false, false) := by
 obtain ⟨h1, h2⟩ := bbH hl hw hr
 unfold aoI ajX
 rw [eAt_none h1 h2, aN (by decide)]
 simp only [axF hl hw hn hr]
 rw [Int.zero_sub]
theorem exp_read (l : Loc) (ht : Digs t) (hn : t ≠ []) (h9 : t.length ≤ 9) (b : Bool) : bcZ l ((if b = true then 45 else 43) :: t) = some (if b = true then -(num t : Int) else (num t : Int)) := by
 have hs : acW l ((if b = true then 45 else 43) :: t) = (t, b) := by
  unfold acW
  cases b with
  | true =>
   rw [aN (show ¬ hasPrefix ((if true = true then 45 else 43) :: t) [43] = true by simp [hasPrefix, List.isPrefixOf]), aO (show hasPrefix ((if true = true then 45 else 43) :: t) [45] = true by simp [hasPrefix, List.isPrefixOf])]
   simp [trimPrefix, hasPrefix, List.isPrefixOf]
  | false =>
   rw [aO (show hasPrefix ((if false = true then 45 else 43) :: t) [43] = true by simp [hasPrefix, List.isPrefixOf])]
   simp [trimPrefix, hasPrefix, List.isPrefixOf]
 unfold bcZ
 rw [hs, aO ⟨hn, adL.2 ht, h9⟩]
theorem num_exp (hl : l.fine) (hw : Digs w) (hn : w ≠ []) (hr : Digs r) (ht : Digs t) (htn : t ≠ []) (h9 : t.length ≤ 9) (b : Bool) :
  aoI l (afN l w r ++ [69] ++ ((if b = true then 45 else 43) :: t)) = some (w ++ r, (if b = true then -(num t : Int) else (num t : Int)) - (r.length : Int), r.length, false, true) := by
 obtain ⟨h1, h2⟩ := bbH hl hw hr
 have hz : (69 : UInt8) ∉ ((if b = true then 45 else 43) :: t : List UInt8) := by
  intro q
  rcases cQ.1 q with q | q
  ·grind
  exact afK ht (notD (by decide)) q
 have he := eAt_some h1 h2 hz
 have hd : (afN l w r ++ [69] ++ ((if b = true then 45 else 43) :: t)).drop ((afN l w r).length + 1) = (if b = true then 45 else 43) :: t := by
  rw [show (afN l w r).length + 1 = (afN l w r ++ [69]).length by simp]; exact List.drop_left
 have htk : (afN l w r ++ [69] ++ ((if b = true then 45 else 43) :: t)).take (afN l w r).length = afN l w r := by
  rw [bV, List.take_left]
 unfold aoI ajX
 rw [he, aO (by omega), eE, hd, htk, exp_read l ht htn h9]
 simp only [axF hl hw hn hr]
theorem aoX (c : UInt8) (s : List UInt8) : ∀ a, (List.replicate a c ++ s).dropWhile (· == c) = s.dropWhile (· == c)
 | 0 => rfl
 | a + 1 => by
  rw [fJ, eT, dU, aO (by simp)]; exact aoX c s a
theorem bdA {x : UInt8} {s : List UInt8} (h : x ≠ c) : (x :: s).dropWhile (· == c) = x :: s := by
 rw [dU, aN (by simpa using h)]
theorem biH {s : List UInt8} (hn : s ≠ []) (h : s.getD (s.length - 1) 0 ≠ c) (b : Nat) : trimRightB (s ++ List.replicate b c) c = s := by
 have hl := cI.2 hn
 unfold trimRightB
 rw [List.reverse_append, List.reverse_replicate, aoX]
 obtain ⟨x, q, hx⟩ : ∃ x q, s.reverse = x :: q := by
  cases hs : s.reverse with
  | nil => exact absurd (List.reverse_eq_nil_iff.1 hs) hn
  | cons x q => exact ⟨x, q, rfl⟩
 have hxc : x ≠ c := by
  have : s.getD (s.length - 1) 0 = x := by
   have h2 : s = q.reverse ++ [x] := by rw [← List.reverse_reverse s, hx, List.reverse_cons]
   rw [h2, aP]; simp
  rw [← this]; exact h
 rw [hx, bdA hxc, ← hx, List.reverse_reverse]
theorem atH {e e' : Int} (hr : qE ds e = true) (hn : ds ≠ []) (a b : Nat) (he : e' + b = e) : mkN neg (List.replicate a 48 ++ (ds ++ List.replicate b 48)) e' = ((neg, ds, e), 0) := by
 have hr2 := hr
 unfold qE at hr2
 rw [aN hn] at hr2
 simp only [bK, aM, cK, aL] at hr2
 obtain ⟨⟨⟨⟨⟨h1, h2⟩, h3⟩, h4⟩, h5⟩, h6⟩ := hr2
 have hlong : apW (List.replicate a 48 ++ (ds ++ List.replicate b 48)) = ds ++ List.replicate b 48 := by
  unfold apW
  rw [aoX]
  match ds, hn, h5 with
  | x :: q, _, h5 => exact bdA (by simpa using h5)
 have hcore : acH (List.replicate a 48 ++ (ds ++ List.replicate b 48)) = ds := by
  unfold acH
  rw [hlong]; exact biH hn h6 b
 have hmore : aiI (List.replicate a 48 ++ (ds ++ List.replicate b 48)) = b := by
  unfold aiI
  rw [hlong, hcore, aS, bR]; omega
 unfold mkN
 rw [hcore, aN hn, aO (by unfold okD; rw [hcore, hmore]; omega), hmore, he]
theorem beH {e : Int} (hr : qE ds e = true) (hs : (qN ds ((ds.length : Int) + e)).2 = true) :
  Digs (qN ds ((ds.length : Int) + e)).1.1 ∧ (qN ds ((ds.length : Int) + e)).1.1 ≠ [] ∧ Digs (qN ds ((ds.length : Int) + e)).1.2 ∧
  mkN neg ((qN ds ((ds.length : Int) + e)).1.1 ++ (qN ds ((ds.length : Int) + e)).1.2) (-((qN ds ((ds.length : Int) + e)).1.2.length : Int)) = ((neg, ds, e), 0) := by
 have hd := qQ hr
 have h48 : isD 48 := by unfold isD; decide
 by_cases hn : ds = []
 ·subst hn
  have he : e = 0 := by simpa [qE] using hr
  subst he
  refine ⟨?_, ?_, ?_, ?_⟩
  ·exact Digs.one h48
  ·simp [qN]
  ·intro x hx; simp [qN] at hx
  rfl
 have hl := cI.2 hn
 unfold qN at hs ⊢
 split at hs
 ·simp at hs
 rename_i h0
 split
 ·grind
 split
 ·rename_i h1
  refine ⟨Digs.one h48, by simp, (Digs.rep h48).app hd, ?_⟩
  have := atH (neg := neg) hr hn ((-((ds.length : Int) + e)).toNat + 1) 0 (e' := e) (by omega)
  rw [List.replicate_zero, cS] at this
  simp only [aS, bR]
  rw [show -((((-((ds.length : Int) + e)).toNat + ds.length : Nat)) : Int) = e by omega, show ([48] ++ (List.replicate (-((ds.length : Int) + e)).toNat 48 ++ ds) : List UInt8) = List.replicate ((-((ds.length : Int) + e)).toNat + 1) 48 ++ ds by rw [fJ]; rfl]
  exact this
 split
 ·rename_i h1 h2
  refine ⟨hd.app (Digs.rep h48), by simp [hn], fun x hx => by simp at hx, ?_⟩
  have := atH (neg := neg) hr hn 0 ((ds.length : Int) + e - ds.length).toNat (e' := 0) (by omega)
  rw [List.replicate_zero, cT] at this
  simp only [cS, bL]
  exact this
 rename_i h1 h2
 refine ⟨hd.take _, ?_, hd.drop _, ?_⟩
 ·intro q
  have := congrArg List.length q
  rw [aQ, bL] at this
  omega
 have := atH (neg := neg) hr hn 0 0 (e' := e) (by omega)
 rw [List.replicate_zero, cT, cS] at this
 simp only [cY, bS]
 rw [show -((ds.length - ((ds.length : Int) + e).toNat : Nat) : Int) = e by omega]
 exact this
theorem bgD (hl : l.fine) (neg : Bool) (hc : isD c) : afI l ((if neg = true then l.minus else []) ++ (c :: t)) = some (c :: t, neg) := by
 obtain ⟨m, q, hm, hmd, h43, h40, h45, _⟩ := hl.minus
 have hp : ∀ (k : UInt8) (z : List UInt8), ¬ isD k → hasPrefix (c :: t) (k :: z) = false := fun k z hk => afY (fun e => by injection e with e; exact hk (e ▸ hc))
 have ht : abA yL (c :: t).length (c :: t) = c :: t := aqI (.inr (by rw [arZ hc]; exact ajD hc)) _
 cases neg with
 | false =>
  simp only [eG, if_false, cT]
  unfold afI acW
  rw [hm, hp 40 [] (notD (by decide)), hp 43 [] (notD (by decide)), hp 45 [] (notD (by decide)), hp m q hmd]
  simp only [eG, if_false]
  rw [ht]
 | true =>
  simp only [if_true]
  have e40 : hasPrefix (l.minus ++ (c :: t)) [40] = false := by rw [hm]; exact afY (fun e => h40 (by injection e))
  have e43 : hasPrefix (l.minus ++ (c :: t)) [43] = false := by rw [hm]; exact afY (fun e => h43 (by injection e))
  have em : hasPrefix (l.minus ++ (c :: t)) l.minus = true := by unfold hasPrefix; rw [List.isPrefixOf_iff_prefix]; exact List.prefix_append _ _
  have et : trimPrefix (l.minus ++ (c :: t)) l.minus = c :: t := by unfold trimPrefix; rw [aO em]; exact List.drop_left
  unfold afI acW
  rw [e40, e43]
  simp only [eG, if_false]
  by_cases hh : hasPrefix (l.minus ++ (c :: t)) [45] = true
  ·rw [aO hh]
   have hm45 : m = 45 := by
    rw [hm] at hh
    simp [hasPrefix, List.isPrefixOf] at hh
    exact hh.symm
   have hq : l.minus = [45] := by rw [hm, h45 hm45, hm45]
   rw [hq] at et ⊢
   rw [et, ht]
  grind
theorem amt_read (hl : l.fine) (hc : isD c) (hz : isD ((c :: t).getD t.length 0)) : acY l (c :: t) = (0, c :: t, 0) := by
 obtain ⟨k, q, hk, hkd, hkl⟩ := hl.cur
 have hp : hasPrefix (c :: t) l.cur = false := by rw [hk]; exact afY (fun e => by injection e with e; exact hkd (e ▸ hc))
 have hs : hasSuffix (c :: t) l.cur = false := by
  rw [hk]
  refine awL (by simp) (fun e => hkl ?_)
  simp only [bE, fP] at e
  rw [e]; exact hz
 have hc2 : hasSuffix (c :: t) l.pct = false := by
  rw [hl.pct]
  refine awL (by simp) (fun e => ?_)
  simp only [bE, fP] at e
  rw [← e] at hz
  exact absurd hz (notD (by decide))
 unfold acY
 rw [hp, hs, hc2]; rfl
theorem arW (hl : l.fine) (neg : Bool) {d : List UInt8} {e e' : Int} {k : Nat} {x : Bool} (hc : isD c) (hz : isD ((c :: t).getD t.length 0)) (hn : aoI l (c :: t) = some (d, e', k, false, x)) (hm : mkN neg d e' = ((neg, ds, e), 0)) :
  abS l (abT yL ((if neg = true then l.minus else []) ++ (c :: t))) = if yD (acX neg ds e) = 3 then (EntN.zero, 2) else (⟨acX neg ds e, 0, k, false, x⟩, 0) := by
 obtain ⟨m, q, hm0, _, _, _, _, hb⟩ := hl.minus
 have ht : abT yL ((if neg = true then l.minus else []) ++ (c :: t)) = (if neg = true then l.minus else []) ++ (c :: t) := by
  refine biF (.inr ?_) (by rw [agA (by simp)]; exact hz)
  cases neg with
  | true => exact hb _
  | false => simp only [eG, if_false, cT]; rw [arZ hc]; exact ajD hc
 unfold abS
 rw [ht, bgD hl neg hc]
 simp only
 unfold atS
 rw [amt_read hl hc hz]
 simp only [hn, Int.add_zero, hm]
 rw [aN (by simp)]
theorem bdQ {p : Int} (h : (qN ds p).2 = true) : agX l neg ds p = (if neg = true then l.minus else []) ++ afN l (qN ds p).1.1 (qN ds p).1.2 := by
 unfold agX afN
 rw [aO h]
theorem bkV : apV l neg ds = (if neg = true then l.minus else []) ++ afN l (ds.take 1) (ds.drop 1) := by
 unfold apV afN
 rw [bV]
 congr 2
 by_cases h : (1 : Int) < (ds.length : Int)
 ·rw [aO h, aN]
  intro q
  have := congrArg List.length q
  rw [bS, bL] at this
  omega
 rw [aN h, aO]
 exact fA (by omega)
theorem auK (hw : Digs w) (hn : w ≠ []) (hr : Digs r) : ∃ c t, afN l w r = c :: t ∧ isD c ∧ isD ((c :: t).getD t.length 0) := by
 match w, hn with
 | c :: q, _ =>
  refine ⟨c, q ++ (if r = [] then [] else l.dc ++ r), rfl, hw c (by simp), ?_⟩
  show isD (((c :: q) ++ (if r = [] then [] else l.dc ++ r)).getD _ 0)
  have hL : (q ++ (if r = [] then [] else l.dc ++ r)).length = ((c :: q) ++ (if r = [] then [] else l.dc ++ r)).length - 1 := by simp
  rw [hL]
  by_cases h : r = []
  ·rw [aO h, cS]
   exact apA hw (by simp)
  rw [aN h, agA (by simp [h]), agA h]
  exact apA hr h
theorem sides_ok {p : Int} (h1 : p ≤ 400) (h2 : (ds.length : Int) - p ≤ 400) : (qN ds p).2 = true := by
 unfold qN
 rw [aN (by omega)]
 repeat' split
 all_goals rfl
theorem bgR {p : Int} (hp : -100000 ≤ p ∧ p ≤ 100000) : Digs ((if (dec (adX p)).length < 2 then [48] else []) ++ dec (adX p)) ∧ ((if (dec (adX p)).length < 2 then [48] else []) ++ dec (adX p) : List UInt8) ≠ [] ∧
  ((if (dec (adX p)).length < 2 then [48] else []) ++ dec (adX p) : List UInt8).length ≤ 9 ∧ num ((if (dec (adX p)).length < 2 then [48] else []) ++ dec (adX p)) = adX p := by
 have h48 : isD 48 := by unfold isD; decide
 have hl : (dec (adX p)).length ≤ 8 := (ahR (by decide)).2 (by unfold adX; split <;> omega)
 have hne : dec (adX p) ≠ [] := by
  intro q
  have h := (ahR (n := adX p) (k := 1) (by decide)).1 (by rw [q]; decide)
  have h2 := azP (adX p)
  rw [q] at h2
  have h3 : adX p = 0 := h2.symm
  rw [h3] at q
  exact absurd q (by decide)
 refine ⟨?_, ?_, ?_, ?_⟩
 ·refine Digs.app ?_ (akA _)
  split
  ·exact Digs.one h48
  exact fun x hx => by simp at hx
 ·intro q
  exact hne (List.append_eq_nil_iff.1 q).2
 ·rw [aS]
  split <;> simp only [bE, bL] <;> omega
 split
 ·rw [ahY, azP, show num [48] = 0 by rfl]; omega
 rw [cT, azP]
theorem gen_read (hl : l.fine) {e : Int} (hr : qE ds e = true) (hlen : ds.length ≤ 16) (he : -2000 ≤ e ∧ e ≤ 5000) :
  ∃ (k : Nat) (x : Bool), abS l (abT yL (bcX l ((neg, ds, e), 0))) = if yD (acX neg ds e) = 3 then (EntN.zero, 2) else (⟨acX neg ds e, 0, k, false, x⟩, 0) := by
 unfold bcX
 simp only [ne_eq, not_true_eq_false, if_false]
 by_cases hp : ds = [] ∨ (-4 ≤ (ds.length : Int) + e ∧ (ds.length : Int) + e ≤ 15)
 ·rw [aO hp]
  have hs : (qN ds ((ds.length : Int) + e)).2 = true := by
   rcases hp with rfl | hp
   ·have : e = 0 := by simpa [qE] using hr
    subst this; rfl
   exact sides_ok (by omega) (by omega)
  obtain ⟨hw, hn, hrr, hm⟩ := beH (neg := neg) hr hs
  rw [bdQ hs]
  have hnum := bkM hl hw hn hrr
  obtain ⟨c, t, hct, hc, hz⟩ := auK (l := l) hw hn hrr
  rw [hct] at hnum ⊢
  exact ⟨_, _, arW hl neg hc hz hnum hm⟩
 rw [aN hp]
 have hne : ds ≠ [] := fun q => hp (.inl q)
 have hd := qQ hr
 have hpos := cI.2 hne
 obtain ⟨h1, h2, h3, h4⟩ := bgR (p := (ds.length : Int) + e) (by omega)
 have hw : Digs (ds.take 1) := hd.take 1
 have hn : ds.take 1 ≠ [] := fun q => by
  have := congrArg List.length q
  rw [aQ, bL] at this
  omega
 have hrr : Digs (ds.drop 1) := hd.drop 1
 have hnum := num_exp hl hw hn hrr h1 h2 h3 (decide ((ds.length : Int) + e < 1))
 have hm : mkN neg (ds.take 1 ++ ds.drop 1) ((if decide ((ds.length : Int) + e < 1) = true then -(num ((if (dec (adX ((ds.length : Int) + e))).length < 2 then [48] else []) ++ dec (adX ((ds.length : Int) + e))) : Int) else (num ((if (dec (adX ((ds.length : Int) + e))).length < 2 then [48] else []) ++ dec (adX ((ds.length : Int) + e))) : Int)) - ((ds.drop 1).length : Int)) = ((neg, ds, e), 0) := by
  rw [h4, cY, bS]
  have hx : (if decide ((ds.length : Int) + e < 1) = true then -(adX ((ds.length : Int) + e) : Int) else (adX ((ds.length : Int) + e) : Int)) - ((ds.length - 1 : Nat) : Int) = e := by
   unfold adX
   by_cases h : (ds.length : Int) + e < 1
   ·rw [aO (bH h), aO h]; omega
   rw [aN (by simpa using h), aN h]; omega
  rw [hx]
  have := atH (neg := neg) hr hne 0 0 (e' := e) (by omega)
  rw [List.replicate_zero, cT, cS] at this
  exact this
 rw [bkV]
 obtain ⟨c, t, hct, hc, hz⟩ := auK (l := l) hw hn hrr
 rw [hct] at hnum ⊢
 have hform : ∀ (z : List UInt8), ((if neg = true then l.minus else []) ++ (c :: t)) ++ [69] ++ [if (ds.length : Int) + e < 1 then 45 else 43] ++ (if (dec (adX ((ds.length : Int) + e))).length < 2 then [48] else []) ++ dec (adX ((ds.length : Int) + e)) =
   (if neg = true then l.minus else []) ++ ((c :: t) ++ [69] ++ ((if decide ((ds.length : Int) + e < 1) = true then 45 else 43) :: ((if (dec (adX ((ds.length : Int) + e))).length < 2 then [48] else []) ++ dec (adX ((ds.length : Int) + e))))) := by
  intro _
  simp only [bV, aM, eT, cT]
 rw [hform []]
 have hz2 : isD (((c :: t) ++ [69] ++ ((if decide ((ds.length : Int) + e < 1) = true then 45 else 43) :: ((if (dec (adX ((ds.length : Int) + e))).length < 2 then [48] else []) ++ dec (adX ((ds.length : Int) + e)))) : List UInt8).getD (t ++ [69] ++ ((if decide ((ds.length : Int) + e < 1) = true then 45 else 43) :: ((if (dec (adX ((ds.length : Int) + e))).length < 2 then [48] else []) ++ dec (adX ((ds.length : Int) + e)))) : List UInt8).length 0) := by
  have hL : (t ++ [69] ++ ((if decide ((ds.length : Int) + e < 1) = true then 45 else 43) :: ((if (dec (adX ((ds.length : Int) + e))).length < 2 then [48] else []) ++ dec (adX ((ds.length : Int) + e)))) : List UInt8).length = ((c :: t) ++ [69] ++ ((if decide ((ds.length : Int) + e < 1) = true then 45 else 43) :: ((if (dec (adX ((ds.length : Int) + e))).length < 2 then [48] else []) ++ dec (adX ((ds.length : Int) + e)))) : List UInt8).length - 1 := by simp
  rw [hL, agA (by simp)]
  have h5 := apA h1 h2
  generalize ((if (dec (adX ((ds.length : Int) + e))).length < 2 then [48] else []) ++ dec (adX ((ds.length : Int) + e)) : List UInt8) = z at h2 h5 ⊢
  generalize (if decide ((ds.length : Int) + e < 1) = true then (45 : UInt8) else 43) = s
  have h6 := agA (a := [s]) h2
  show isD (([s] ++ z).getD (([s] ++ z).length - 1) 0)
  rw [h6]; exact h5
 exact ⟨_, _, arW hl neg hc hz2 hnum hm⟩
theorem bnB (hl : l.fine) {x : Nat} (hk : yD x < 3) :
  ∃ (k : Nat) (b : Bool), abS l (abT yL (bcX l (adT x 15))) = if yD (acX (adT x 15).1.1 (adT x 15).1.2.1 (adT x 15).1.2.2) = 3 then (EntN.zero, 2) else (⟨acX (adT x 15).1.1 (adT x 15).1.2.1 (adT x 15).1.2.2, 0, k, false, b⟩, 0) := by
 obtain ⟨h1, h2, h3⟩ := bbS hk
 have hr := aeE x 15
 have hl2 := alZ x 15
 generalize hs : adT x 15 = s at *
 obtain ⟨⟨ng, ds, e⟩, er⟩ := s
 dsimp only at h1 h2 h3 hr hl2 ⊢
 subst h1
 exact gen_read hl hr (by omega) ⟨h2, h3⟩
end Go.Proofs.YtmmgbnolccpjoaaGreatDoor
