import Derived.Test.YtfkeflcdadlmdaaGreatDoorSsk
import Derived.Test.YtfkeflcdadlmdaaGreatDoorU1
import Derived.Test.YtfkeflcdadlmdaaGreatDoorLgk
import Derived.Test.YtfkeflcdadlmdaaGreatDoorB2
import Derived.Lib.CountLaws
import Derived.Test.YtfkeflcdadlmdaaGreatDoorU3
namespace Go.Proofs.YtfkeflcdadlmdaaGreatDoor
open Go Go.RowKit

def abF (l : Loc) (g : Bool) (w : List UInt8) : List UInt8 := if g = true then ahO l w else w
def aaN (l : Loc) (g neg : Bool) (ds : List UInt8) (p : Int) : List UInt8 :=
 if (qM ds p).2 = true then (if neg = true then l.minus else []) ++ (abF l g (qM ds p).1.1 ++ (if (qM ds p).1.2 = [] then [] else l.dc ++ (qM ds p).1.2)) else []
def afG (l : Loc) (s : List UInt8) : List UInt8 :=
 if l.first = true then l.cur ++ (if l.space = true then [194, 160] else []) ++ s else s ++ (if l.space = true then [194, 160] else []) ++ l.cur
theorem awR (l : Loc) (hk : l.ok) : ∀ (f i : Nat) (d s : List UInt8), (agQ l f i d s).length ≤ 11 * d.length + s.length
 | 0, i, d, s => by unfold agQ; rw [List.length_append]; omega
 | f + 1, i, d, s => by
  have h2 := afC l i
  have h3 := hk.2.1
  unfold agQ
  split
  ·rename_i h
   have := awR l hk f (i + 1) (d.take (d.length - abV l i)) (l.grp ++ d.drop (d.length - abV l i) ++ s)
   simp only [List.length_append, List.length_take, List.length_drop] at this
   rw [Nat.min_eq_left (by omega)] at this
   omega
  ·rw [List.length_append]; omega
theorem bfK {l : Loc} (hk : l.ok) (g : Bool) {w : List UInt8} (h : w.length ≤ 2000) : (abF l g w).length ≤ 22000 := by
 unfold abF
 split
 ·have := awR l hk w.length 0 w []
  unfold ahO
  simp only [List.length_nil] at this
  omega
 ·omega

set_option maxRecDepth 100000 in
theorem adY (l : Loc) (hk : l.ok) (g : Bool) (neg : Bool) (ds : List UInt8) (e : Int) (hr : qG ds e = true) (H : Heap) : ACall Tryz.prog 20 [pL l (szA l), dA neg ds e, .bool g] H (fun y H' => y = .str (aaN l g neg ds ((ds.length : Int) + e)) ∧ H' = H) := by
 have hsl := akE (ds := ds) (p := (ds.length : Int) + e) (aaQ hr).1
 have hml := zX
 have hdd := qP hr
 have hkk := hk
 obtain ⟨hk1, hk2, hk3, hk4, hk5⟩ := hkk
 generalize hsv : qM ds ((ds.length : Int) + e) = sv at *
 obtain ⟨⟨w, r⟩, ok⟩ := sv
 obtain ⟨hw, hrr⟩ := hsl
 dsimp only at hw hrr
 have haw := bfK (l := l) hk g hw
 refine ACall.of_body Tryz.func20 rfl Tryz.ntmps20 Tryz.results20 rfl ?_
 refine .sr (.e rfl (yR (tm rfl) (.inr ⟨_, rfl⟩)) (.e rfl (yR (tm rfl) (.inr ⟨_, rfl⟩)) (.p rfl (zB (zS rfl)) (.nr (.p rfl (zU Tryz.isAgg48 Tryz.sizeOf48 (tm rfl) (Nat.le_of_ble_eq_true rfl)) (.cl rfl Tryz.call59 (evs1 rfl) (akF neg ds e hr _) ?_))))))
 rw [hsv]
 dsimp only
 refine .mv rfl rfl (.p rfl (zD (tm rfl) rfl) (.p rfl (zD (tm rfl) rfl) (.p rfl (zD (tm rfl) rfl) (.as rfl rfl (.as rfl rfl (.as rfl rfl (.ng (.seq ?_))))))))
 refine AWP.seqTo 22 (.bool (!ok)) [2, 3, 4, 6, 7, 8] ?_ ?_
 ·-- region 2
  refine .region (.mv rfl rfl (.p rfl (qY (tm rfl)) (.mv rfl rfl ?_)))
  refine zQ (t := 18) rfl (fun hg18 => ?_) (fun hg18 => ?_)
  ·have hh18 := hg18; try simp only [decide_eq_true_eq, decide_eq_false_iff_not, Bool.not_eq_true', Bool.not_eq_false', Int.not_lt, Int.not_le, ne_eq, Decidable.not_not] at hh18
   refine .gn rfl rfl rfl (by assumption) (.gn rfl rfl rfl (by assumption) (.gn rfl rfl rfl (by assumption) (.p rfl (zN (tm rfl) (by assumption) zK) (.nil ?_))))
   exact ⟨rfl, yV rfl (by (cases ok <;> first | rfl | (simp at hg18))) (zA rfl (zA rfl (zA rfl (zA rfl (zA rfl (zA rfl zL)))))), rfl⟩
  ·have hh18 := hg18; try simp only [decide_eq_true_eq, decide_eq_false_iff_not, Bool.not_eq_true', Bool.not_eq_false', Int.not_lt, Int.not_le, ne_eq, Decidable.not_not] at hh18
   refine .gp rfl rfl rfl (by assumption) (zU Tryz.isAgg48 Tryz.sizeOf48 (tm rfl) (Nat.le_of_ble_eq_true rfl)) (.gs rfl rfl rfl (by assumption) (zP Tryz.call60 (evs1 rfl) (acL neg ds e hdd _)) ?_)
   rintro _ _ ⟨rfl, hH⟩
   obtain rfl := hH.symm
   rw [hr]
   refine .gp rfl rfl rfl (by assumption) (qY (tm rfl)) (.p rfl (zM (tm rfl) (by assumption) (tm rfl)) (.nil ?_))
   exact ⟨rfl, yV rfl (by (cases ok <;> first | rfl | (simp at hg18))) (zA rfl (zA rfl (zA rfl (zA rfl (zA rfl (zA rfl zL)))))), rfl⟩
 ·refine AWP.sub [(22, _), (2, _), (3, _), (4, _), (6, _), (7, _), (8, _)] (zA rfl (zA rfl (zA rfl (zA rfl (zA rfl (zA rfl (zA rfl zL))))))) ?_
  refine AWP.cond (tm rfl) (fun hc22 => ?_) (fun hc22 => ?_)
  ·try simp only [decide_eq_true_eq, decide_eq_false_iff_not, Bool.not_eq_true', Bool.not_eq_false', Int.not_lt, Int.not_le, ne_eq, Decidable.not_not] at hc22
   refine .sr (.p rfl (zB (zS rfl)) (.ng (.ret ?_)))
   refine Next.rt ?_
   refine Ret.go (.cons (.tmp _ _ rfl) .nil) _ (Heap.le.refl _) ?_
   refine ⟨?_, rfl⟩
   unfold aaN
   rw [hsv]
   simp only []
   rw [if_neg (show ¬ ok = true by simpa using hc22)]; rfl
  ·try simp only [decide_eq_true_eq, decide_eq_false_iff_not, Bool.not_eq_true', Bool.not_eq_false', Int.not_lt, Int.not_le, ne_eq, Decidable.not_not] at hc22
   refine .skip ?_
   refine Next.go ?_
   refine AWP.seqToL [(7, .str (abF l g w))] [3, 4, 6, 8] ?_ ?_
   ·refine .sr (.mv rfl rfl (.ng ?_))
    refine AWP.cond (tm rfl) (fun hc23 => ?_) (fun hc23 => ?_)
    ·try simp only [decide_eq_true_eq, decide_eq_false_iff_not, Bool.not_eq_true', Bool.not_eq_false', Int.not_lt, Int.not_le, ne_eq, Decidable.not_not] at hc23
     refine .region (.p rfl (zU Tryz.isAgg25 Tryz.sizeOf25 (tm rfl) (Nat.le_of_ble_eq_true rfl)) (.mv rfl rfl (.cl rfl Tryz.call61 (evs2 rfl rfl) (ahV l hk w (by omega) _) (.as rfl rfl (.nil ?_)))))
     exact ⟨rfl, (yH rfl (by (unfold abF; rw [if_pos (by assumption)]; done)) (zA rfl (zA rfl (zA rfl (zA rfl zL))))), rfl⟩
    ·try simp only [decide_eq_true_eq, decide_eq_false_iff_not, Bool.not_eq_true', Bool.not_eq_false', Int.not_lt, Int.not_le, ne_eq, Decidable.not_not] at hc23
     refine .skip ?_
     exact ⟨rfl, (yH rfl (by (unfold abF; rw [if_neg (by simp_all)]; done)) (zA rfl (zA rfl (zA rfl (zA rfl zL))))), rfl⟩
   ·refine AWP.sub [(7, _), (3, _), (4, _), (6, _), (8, _)] (zA rfl (zA rfl (zA rfl (zA rfl (zA rfl zL))))) ?_
    refine AWP.seqToL [(7, .str ((if neg = true then l.minus else []) ++ abF l g w))] [3, 6, 8] ?_ ?_
    ·refine .sr (.p rfl (zG Tryz.underlying48 rfl Tryz.sizeOf4 (tm rfl)) (.p rfl (zF Tryz.isAgg4 (tm rfl)) (.ng ?_)))
     refine AWP.cond (tm rfl) (fun hc28 => ?_) (fun hc28 => ?_)
     ·try simp only [decide_eq_true_eq, decide_eq_false_iff_not, Bool.not_eq_true', Bool.not_eq_false', Int.not_lt, Int.not_le, ne_eq, Decidable.not_not] at hc28
      refine .region (.p rfl (zG Tryz.underlying25 rfl Tryz.sizeOf9 (tm rfl)) (.p rfl (zF Tryz.isAgg9 (tm rfl)) (.mv rfl rfl (.p rfl (yK (tm rfl) (tm rfl) (by rw [zX]; omega)) (.as rfl rfl (.nil ?_))))))
      exact ⟨rfl, (yH rfl (by (rw [if_pos (by assumption)]; done)) (zA rfl (zA rfl (zA rfl zL)))), rfl⟩
     ·try simp only [decide_eq_true_eq, decide_eq_false_iff_not, Bool.not_eq_true', Bool.not_eq_false', Int.not_lt, Int.not_le, ne_eq, Decidable.not_not] at hc28
      refine .skip ?_
      exact ⟨rfl, (yH rfl (by (rw [if_neg (by (rw [hc28]; decide))]; rfl)) (zA rfl (zA rfl (zA rfl zL)))), rfl⟩
    ·refine AWP.sub [(7, _), (3, _), (6, _), (8, _)] (zA rfl (zA rfl (zA rfl (zA rfl zL)))) ?_
     have hmw : (if neg = true then l.minus else []).length ≤ 10 := by split <;> first | omega | (simp; done) | (simp; omega)
     refine .seq (.sr (.mv rfl rfl (.p rfl (qS (tm rfl) (zS rfl)) (.ng ?_))))
     refine AWP.cond (tm rfl) (fun hc34 => ?_) (fun hc34 => ?_)
     ·try simp only [decide_eq_true_eq, decide_eq_false_iff_not, Bool.not_eq_true', Bool.not_eq_false', Int.not_lt, Int.not_le, ne_eq, Decidable.not_not] at hc34
      refine .region (.mv rfl rfl (.p rfl (zG Tryz.underlying25 rfl Tryz.sizeOf9 (tm rfl)) (.p rfl (zF Tryz.isAgg9 (tm rfl)) (.mv rfl rfl (.p rfl (yK (tm rfl) (tm rfl) (by rw [zX]; omega)) (.p rfl (yK (tm rfl) (tm rfl) (by simp only [zX, List.length_append]; first | omega | (split <;> first | omega | (simp; done) | (simp; omega)))) (.as rfl rfl (.nr ?_))))))))
      refine .mv rfl rfl (.as rfl rfl (.ng (.ret ?_)))
      refine Ret.go (.cons (.tmp _ _ rfl) .nil) _ (Heap.le.refl _) ?_
      refine ⟨?_, rfl⟩
      unfold aaN
      rw [hsv]
      simp only []
      rw [if_pos (show ok = true by simpa using hc22), if_neg (show ¬ r = [] by simpa using hc34), List.append_assoc]; rfl
     ·try simp only [decide_eq_true_eq, decide_eq_false_iff_not, Bool.not_eq_true', Bool.not_eq_false', Int.not_lt, Int.not_le, ne_eq, Decidable.not_not] at hc34
      refine .skip ?_
      refine Next.go ?_
      refine .sr (.mv rfl rfl (.as rfl rfl (.ng (.ret ?_))))
      refine Ret.go (.cons (.tmp _ _ rfl) .nil) _ (Heap.le.refl _) ?_
      refine ⟨?_, rfl⟩
      unfold aaN
      rw [hsv]
      simp only []
      rw [if_pos (show ok = true by simpa using hc22), if_pos (show r = [] by simpa using hc34), List.append_nil]; rfl

set_option maxRecDepth 100000 in
theorem avF (l : Loc) (hk : l.ok) (s : List UInt8) (hs : s.length ≤ 100000) (H : Heap) : ACall Tryz.prog 21 [pL l (szA l), .str s] H (fun y H' => y = .str (afG l s) ∧ H' = H) := by
 have hml := zX
 have hkk := hk
 obtain ⟨hk1, hk2, hk3, hk4, hk5⟩ := hkk
 have hsp : (if l.space = true then ([194, 160] : List UInt8) else []).length ≤ 2 := by split <;> simp
 refine ACall.of_body Tryz.func21 rfl Tryz.ntmps21 Tryz.results21 rfl ?_
 refine .sr (.e rfl (yR (tm rfl) (.inr ⟨_, rfl⟩)) (.p rfl (zB (zS rfl)) (.nr (.p rfl (zB (zS rfl)) (.ng ?_)))))
 refine AWP.seqToL [(5, .str (if l.space = true then ([194, 160] : List UInt8) else []))] [1, 2, 4] ?_ ?_
 ·refine .sr (.p rfl (zG Tryz.underlying25 rfl Tryz.sizeOf4 (tm rfl)) (.p rfl (zF Tryz.isAgg4 (tm rfl)) (.ng ?_)))
  refine AWP.cond (tm rfl) (fun hc7 => ?_) (fun hc7 => ?_)
  ·try simp only [decide_eq_true_eq, decide_eq_false_iff_not, Bool.not_eq_true', Bool.not_eq_false', Int.not_lt, Int.not_le, ne_eq, Decidable.not_not] at hc7
   refine .region (.p rfl (zB (zS rfl)) (.nil ?_))
   exact ⟨rfl, (yH rfl (by (rw [if_pos (by assumption)]; done)) (zA rfl (zA rfl (zA rfl zL)))), rfl⟩
  ·try simp only [decide_eq_true_eq, decide_eq_false_iff_not, Bool.not_eq_true', Bool.not_eq_false', Int.not_lt, Int.not_le, ne_eq, Decidable.not_not] at hc7
   refine .skip ?_
   exact ⟨rfl, (yH rfl (by (rw [if_neg (by simp_all)]; done)) (zA rfl (zA rfl (zA rfl zL)))), rfl⟩
 ·refine AWP.sub [(5, _), (1, _), (2, _), (4, _)] (zA rfl (zA rfl (zA rfl (zA rfl zL)))) ?_
  refine .seq (.sr (.p rfl (zG Tryz.underlying25 rfl Tryz.sizeOf4 (tm rfl)) (.p rfl (zF Tryz.isAgg4 (tm rfl)) (.ng ?_))))
  refine AWP.cond (tm rfl) (fun hc9 => ?_) (fun hc9 => ?_)
  ·try simp only [decide_eq_true_eq, decide_eq_false_iff_not, Bool.not_eq_true', Bool.not_eq_false', Int.not_lt, Int.not_le, ne_eq, Decidable.not_not] at hc9
   refine .sr (.p rfl (zG Tryz.underlying25 rfl Tryz.sizeOf9 (tm rfl)) (.p rfl (zF Tryz.isAgg9 (tm rfl)) (.mv rfl rfl (.p rfl (yK (tm rfl) (tm rfl) (by simp only [zX, List.length_append]; first | omega | (split <;> first | omega | (simp; done) | (simp; omega)))) (.mv rfl rfl (.p rfl (yK (tm rfl) (tm rfl) (by simp only [zX, List.length_append]; first | omega | (split <;> first | omega | (simp; done) | (simp; omega)))) (.as rfl rfl (.ng ?_))))))))
   refine .ret ?_
   refine Next.rt ?_
   refine Ret.go (.cons (.tmp _ _ rfl) .nil) _ (Heap.le.refl _) ?_
   refine ⟨?_, rfl⟩
   unfold afG
   rw [if_pos (show l.first = true from hc9)]; rfl
  ·try simp only [decide_eq_true_eq, decide_eq_false_iff_not, Bool.not_eq_true', Bool.not_eq_false', Int.not_lt, Int.not_le, ne_eq, Decidable.not_not] at hc9
   refine .skip ?_
   refine Next.go ?_
   refine .sr (.mv rfl rfl (.mv rfl rfl (.p rfl (yK (tm rfl) (tm rfl) (by simp only [zX, List.length_append]; first | omega | (split <;> first | omega | (simp; done) | (simp; omega)))) (.p rfl (zG Tryz.underlying25 rfl Tryz.sizeOf9 (tm rfl)) (.p rfl (zF Tryz.isAgg9 (tm rfl)) (.p rfl (yK (tm rfl) (tm rfl) (by simp only [zX, List.length_append]; first | omega | (split <;> first | omega | (simp; done) | (simp; omega)))) (.as rfl rfl (.ng ?_))))))))
   refine .ret ?_
   refine Ret.go (.cons (.tmp _ _ rfl) .nil) _ (Heap.le.refl _) ?_
   refine ⟨?_, rfl⟩
   unfold afG
   rw [if_neg (show ¬ l.first = true by rw [hc9]; decide)]; rfl
section
open Go Go.RowKit Go.Lib

theorem avS {c : UInt8} {q s : List UInt8} : replaceAll s (c :: q) [] = replaceK (c :: q) [] (count s (c :: q)) s := by
 unfold replaceAll replace
 rw [if_neg (by simp)]
 unfold replaceNum
 rw [if_pos (.inl (by decide))]
theorem aoL {c : UInt8} {q a z : List UInt8} (ha : c ∉ a) : replaceAll (a ++ (c :: q) ++ z) (c :: q) [] = a ++ replaceAll z (c :: q) [] := by
 have hi := apF (c := c) (r := q) (z := z) ha
 have hd : (a ++ (c :: q) ++ z).drop (a.length + (c :: q).length) = z := by rw [show a.length + (c :: q).length = (a ++ (c :: q)).length by simp]; exact List.drop_left
 have ht : (a ++ (c :: q) ++ z).take a.length = a := by rw [List.append_assoc, List.take_left]
 rw [avS, avS]
 have hc : count (a ++ (c :: q) ++ z) (c :: q) = count z (c :: q) + 1 := by
  unfold count
  rw [countFrom, if_neg (by rw [hi, beq_iff_eq]; omega), hi, Int.toNat_natCast, hd, Nat.add_comm 1]
  congr 1
  exact countFrom_fuel (by simp) _ z (by simp only [List.length_append, List.length_cons]; omega) _ (by omega)
 rw [hc, replaceK_hit _ _ _ _ _ hi, ht, hd, List.append_nil]
theorem avQ {c : UInt8} {q : List UInt8} : replaceAll [] (c :: q) [] = [] := agZ rfl
theorem akT {c : UInt8} {q a s : List UInt8} (ha : c ∉ a) (hs : s = [] ∨ ∃ z, s = (c :: q) ++ z) : replaceAll (a ++ s) (c :: q) [] = a ++ replaceAll s (c :: q) [] := by
 rcases hs with rfl | ⟨z, rfl⟩
 ·rw [List.append_nil, avQ, List.append_nil]; exact agZ (afT ha)
 ·have h2 := aoL (c := c) (q := q) (a := []) (z := z) (by simp)
  rw [List.nil_append, List.nil_append] at h2
  rw [← List.append_assoc, aoL ha, h2]
theorem ayH {l : Loc} (hl : l.fine) : ∀ (f i : Nat) (d s : List UInt8), Digs d → (s = [] ∨ ∃ z, s = l.grp ++ z) → replaceAll (agQ l f i d s) l.grp [] = d ++ replaceAll s l.grp [] := by
 obtain ⟨c, q, hg, hc, _⟩ := hl.grp
 intro f
 induction f with
 | zero =>
  intro i d s hd hs
  unfold agQ
  rw [hg] at hs ⊢
  exact akT (acZ hd hc) hs
 | succ f ih =>
  intro i d s hd hs
  unfold agQ
  split
  ·rw [ih (i + 1) _ _ (hd.take _) (.inr ⟨d.drop (d.length - abV l i) ++ s, by rw [List.append_assoc]⟩)]
   have h1 : replaceAll (l.grp ++ d.drop (d.length - abV l i) ++ s) l.grp [] = d.drop (d.length - abV l i) ++ replaceAll s l.grp [] := by
    rw [hg] at hs ⊢
    have h2 := aoL (c := c) (q := q) (a := []) (z := d.drop (d.length - abV l i) ++ s) (by simp)
    rw [List.nil_append, List.nil_append] at h2
    rw [List.append_assoc, h2]
    exact akT (acZ (hd.drop _) hc) hs
   rw [h1, ← List.append_assoc, List.take_append_drop]
  ·rw [hg] at hs ⊢
   exact akT (acZ hd hc) hs
theorem aqN {l : Loc} (hl : l.fine) {w : List UInt8} (hw : Digs w) : replaceAll (ahO l w) l.grp [] = w := by
 obtain ⟨c, q, hg, _, _⟩ := hl.grp
 unfold ahO
 rw [ayH hl _ _ _ _ hw (.inl rfl), hg, avQ, List.append_nil]
theorem bdP (l : Loc) : ∀ (f i : Nat) (d s : List UInt8) (x : UInt8), x ∈ agQ l f i d s → x ∈ d ∨ x ∈ l.grp ∨ x ∈ s := by
 intro f
 induction f with
 | zero =>
  intro i d s x h
  unfold agQ at h
  rcases List.mem_append.1 h with h | h
  ·exact .inl h
  ·exact .inr (.inr h)
 | succ f ih =>
  intro i d s x h
  unfold agQ at h
  split at h
  ·rcases ih _ _ _ x h with h | h | h
   ·exact .inl (List.mem_of_mem_take h)
   ·exact .inr (.inl h)
   ·rcases List.mem_append.1 h with h | h
    ·rcases List.mem_append.1 h with h | h
     ·exact .inr (.inl h)
     ·exact .inl (List.mem_of_mem_drop h)
    ·exact .inr (.inr h)
  ·rcases List.mem_append.1 h with h | h
   ·exact .inl h
   ·exact .inr (.inr h)
theorem azS (l : Loc) : ∀ (f i : Nat) (d s : List UInt8), Digs d → d ≠ [] → ∃ c t, agQ l f i d s = c :: t ∧ isD c := by
 have base : ∀ (d s : List UInt8), Digs d → d ≠ [] → ∃ c t, d ++ s = c :: t ∧ isD c := by
  intro d s hd hn
  match d, hn with
  | c :: r, _ => exact ⟨c, r ++ s, rfl, hd c (by simp)⟩
 intro f
 induction f with
 | zero => intro i d s hd hn; unfold agQ; exact base d s hd hn
 | succ f ih =>
  intro i d s hd hn
  unfold agQ
  split
  ·rename_i h
   refine ih _ _ _ (hd.take _) (fun q => ?_)
   have := congrArg List.length q
   rw [List.length_take, List.length_nil] at this
   omega
  ·exact base d s hd hn
theorem azP (l : Loc) : ∀ (f i : Nat) (d s : List UInt8), Digs d → d ≠ [] → (s = [] ∨ isD (s.getD (s.length - 1) 0)) → isD ((agQ l f i d s).getD ((agQ l f i d s).length - 1) 0) := by
 have base : ∀ (d s : List UInt8), Digs d → d ≠ [] → (s = [] ∨ isD (s.getD (s.length - 1) 0)) → isD ((d ++ s).getD ((d ++ s).length - 1) 0) := by
  intro d s hd hn hs
  rcases hs with rfl | hs
  ·rw [List.append_nil]; exact ahS hd hn
  ·by_cases h0 : s = []
   ·subst h0; rw [List.append_nil]; exact ahS hd hn
   ·rw [abR h0]; exact hs
 intro f
 induction f with
 | zero => intro i d s hd hn hs; unfold agQ; exact base d s hd hn hs
 | succ f ih =>
  intro i d s hd hn hs
  have h2 := afC l i
  unfold agQ
  split
  ·rename_i h
   refine ih _ _ _ (hd.take _) (fun q => ?_) (.inr ?_)
   ·have := congrArg List.length q
    rw [List.length_take, List.length_nil] at this
    omega
   ·have hne : d.drop (d.length - abV l i) ≠ [] := fun q => by
     have := congrArg List.length q
     rw [List.length_drop, List.length_nil] at this
     omega
    rw [List.append_assoc, abR (by simp [hne])]
    exact base _ s (hd.drop _) hne hs
  ·exact base d s hd hn hs
end
section
open Go Go.RowKit Go.Lib

def Loc.grpOk (l : Loc) : Prop := ∀ x ∈ l.grp, x ≠ 69 ∧ x ≠ 101 ∧ l.dc ≠ [x]
theorem azM : ∀ l ∈ locs, l.grpOk := by
 intro l hl
 simp only [locs, List.mem_cons, List.not_mem_nil, or_false] at hl
 rcases hl with rfl | rfl | rfl | rfl | rfl | rfl <;> (unfold Loc.grpOk; decide)
theorem amB {l : Loc} (g : Bool) {w : List UInt8} {x : UInt8} (h : x ∈ abF l g w) : x ∈ w ∨ x ∈ l.grp := by
 unfold abF at h
 split at h
 ·unfold ahO at h
  rcases bdP l _ _ _ _ x h with h | h | h
  ·exact .inl h
  ·exact .inr h
  ·simp at h
 ·exact .inl h
theorem anZ {l : Loc} (g : Bool) {w : List UInt8} (hw : Digs w) (hn : w ≠ []) : ∃ c t, abF l g w = c :: t ∧ isD c := by
 unfold abF
 split
 ·exact azS l _ _ _ _ hw hn
 ·match w, hn with
  | c :: r, _ => exact ⟨c, r, rfl, hw c (by simp)⟩
theorem baR {l : Loc} (g : Bool) {w : List UInt8} (hw : Digs w) (hn : w ≠ []) : isD ((abF l g w).getD ((abF l g w).length - 1) 0) := by
 unfold abF
 split
 ·exact azP l _ _ _ _ hw hn (.inl rfl)
 ·exact ahS hw hn
def afZ (l : Loc) (g : Bool) (w r : List UInt8) : List UInt8 := abF l g w ++ (if r = [] then [] else l.dc ++ r)
theorem baL {l : Loc} (hl : l.fine) (hg : l.grpOk) (g : Bool) {w r : List UInt8} (hw : Digs w) (hn : w ≠ []) (hr : Digs r) : ∃ gr, ajI l (afZ l g w r) = some (w ++ r, r.length, gr) := by
 obtain ⟨c, hdc, hc, _, _⟩ := hl.dc
 have hnc : c ∉ abF l g w := fun h => by
  rcases amB g h with h | h
  ·exact acZ hw hc h
  ·exact (hg c h).2.2 hdc
 have hcut : (cut (afZ l g w r) l.dc).1 = abF l g w ∧ (cut (afZ l g w r) l.dc).2.1 = r := by
  unfold afZ
  rw [hdc]
  split
  ·rename_i h0
   rw [List.append_nil, cut_none hnc, h0]; exact ⟨rfl, rfl⟩
  ·rw [← List.append_assoc, cut_some hnc]; exact ⟨rfl, rfl⟩
 obtain ⟨a, t, hat, _⟩ := anZ (l := l) g hw hn
 have hne : abF l g w ≠ [] := by rw [hat]; simp
 have hbad : badB (abF l g w) r = false := by
  unfold badB
  rw [decide_eq_false hne, Bool.false_and, Bool.false_or]
  exact decide_eq_false (fun q => q (beW hr))
 have hrep : replaceAll (abF l g w) l.grp [] = w := by
  unfold abF
  split
  ·exact aqN hl hw
  ·obtain ⟨k, q, hk, hkc, _⟩ := hl.grp
   rw [hk]; exact agZ (afT (acZ hw hkc))
 have hpl : aeF l (abF l g w) = some w := by
  unfold aeF
  rw [hrep, if_neg (by rintro (h | h); exact hn h; exact absurd (adA.2 hw) (by rw [h]; decide)), if_neg]
  rintro ⟨h1, h2⟩
  cases g
  ·exact h1 rfl
  ·exact h2 rfl
 refine ⟨!decide (w = abF l g w), ?_⟩
 unfold ajI
 rw [hcut.1, hcut.2, hbad, if_neg (by decide)]
 unfold adP
 rw [if_neg hne, hpl]
theorem bbD {l : Loc} (hl : l.fine) (hg : l.grpOk) (g : Bool) {w r : List UInt8} (hw : Digs w) (hr : Digs r) : (69 : UInt8) ∉ afZ l g w r ∧ (101 : UInt8) ∉ afZ l g w r := by
 obtain ⟨c, hdc, hc, h1, h2⟩ := hl.dc
 have n1 : ¬ isD 69 := notD (by decide)
 have n2 : ¬ isD 101 := notD (by decide)
 unfold afZ
 rw [hdc]
 constructor
 ·intro h
  rcases List.mem_append.1 h with h | h
  ·rcases amB g h with h | h
   ·exact acZ hw n1 h
   ·exact (hg 69 h).1 rfl
  ·split at h
   ·simp at h
   ·rcases List.mem_append.1 h with h | h
    ·exact h1 (List.mem_singleton.1 h).symm
    ·exact acZ hr n1 h
 ·intro h
  rcases List.mem_append.1 h with h | h
  ·rcases amB g h with h | h
   ·exact acZ hw n2 h
   ·exact (hg 101 h).2.1 rfl
  ·split at h
   ·simp at h
   ·rcases List.mem_append.1 h with h | h
    ·exact h2 (List.mem_singleton.1 h).symm
    ·exact acZ hr n2 h
theorem azC {l : Loc} (hl : l.fine) (hg : l.grpOk) (g : Bool) {w r : List UInt8} (hw : Digs w) (hn : w ≠ []) (hr : Digs r) : ∃ gr, alH l (afZ l g w r) = some (w ++ r, -(r.length : Int), r.length, gr, false) := by
 obtain ⟨h1, h2⟩ := bbD hl hg g hw hr
 obtain ⟨gr, hb⟩ := baL hl hg g hw hn hr
 refine ⟨gr, ?_⟩
 unfold alH aiJ
 rw [eAt_none h1 h2, if_neg (by decide)]
 simp only [hb]
 rw [Int.zero_sub]
theorem axJ {l : Loc} (g : Bool) {w r : List UInt8} (hw : Digs w) (hn : w ≠ []) (hr : Digs r) : ∃ c t, afZ l g w r = c :: t ∧ isD c ∧ isD ((c :: t).getD t.length 0) := by
 obtain ⟨c, q, hq, hc⟩ := anZ (l := l) g hw hn
 have hz : isD ((afZ l g w r).getD ((afZ l g w r).length - 1) 0) := by
  unfold afZ
  by_cases h : r = []
  ·rw [if_pos h, List.append_nil]; exact baR g hw hn
  ·rw [if_neg h, abR (by simp [h]), abR h]; exact ahS hr h
 have he : afZ l g w r = c :: (q ++ (if r = [] then [] else l.dc ++ r)) := by unfold afZ; rw [hq]; rfl
 refine ⟨c, _, he, hc, ?_⟩
 rw [he] at hz
 simpa using hz
theorem ajS {l : Loc} {g neg : Bool} {ds : List UInt8} {p : Int} (h : (qM ds p).2 = true) : aaN l g neg ds p = (if neg = true then l.minus else []) ++ afZ l g (qM ds p).1.1 (qM ds p).1.2 := by
 unfold aaN afZ
 rw [if_pos h]
theorem ajP {l : Loc} {v t d ds : List UInt8} {neg : Bool} {kd e e' : Int} {k : Nat} {gr x : Bool} (ha : acP l v = (kd, t, 0)) (hn : alH l t = some (d, e', k, gr, x)) (hm : mkN neg d e' = ((neg, ds, e), 0)) :
  apK l v neg = if yY (qU neg ds e) = 3 then (EntN.zero, 2) else (⟨qU neg ds e, kd, k, gr, x⟩, 0) := by
 unfold apK
 rw [ha]
 simp only [hn, Int.add_zero, hm]
 rw [if_neg (by simp)]
theorem auM {l : Loc} (hl : l.fine) (neg : Bool) {c : UInt8} {t d ds : List UInt8} {e e' : Int} {k : Nat} {gr x : Bool} (hc : isD c) (hz : isD ((c :: t).getD t.length 0)) (hn : alH l (c :: t) = some (d, e', k, gr, x)) (hm : mkN neg d e' = ((neg, ds, e), 0)) :
  aaL l (qV yC ((if neg = true then l.minus else []) ++ (c :: t))) = if yY (qU neg ds e) = 3 then (EntN.zero, 2) else (⟨qU neg ds e, 0, k, gr, x⟩, 0) := by
 obtain ⟨m, q, hm0, _, _, _, _, hb⟩ := hl.minus
 have ht : qV yC ((if neg = true then l.minus else []) ++ (c :: t)) = (if neg = true then l.minus else []) ++ (c :: t) := by
  refine ajW (.inr ?_) (by rw [abR (by simp)]; exact hz)
  cases neg with
  | true => exact hb _
  | false => simp only [Bool.false_eq_true, if_false, List.nil_append]; rw [aeK hc]; exact acK hc
 unfold aaL
 rw [ht, azR hl neg hc]
 exact ajP (axC hl hc hz) hn hm
theorem auN {l : Loc} (hl : l.fine) {c : UInt8} {t d ds : List UInt8} {e e' : Int} {k : Nat} {gr x : Bool} (hc : isD c) (hz : isD ((c :: t).getD t.length 0)) (hn : alH l (c :: t) = some (d, e', k, gr, x)) (hm : mkN true d e' = ((true, ds, e), 0)) :
  aaL l (qV yC ([40] ++ (c :: t) ++ [41])) = if yY (qU true ds e) = 3 then (EntN.zero, 2) else (⟨qU true ds e, 0, k, gr, x⟩, 0) := by
 have h40 : decodeL ([40] ++ (c :: t) ++ [41]) = (40, 1) := by rw [decodeL_N]; exact decodeN_ascii _ _ _ _ _ (show (40 : UInt8).toNat < 128 by decide)
 have h41 : decodeLastL ([40] ++ (c :: t) ++ [41]) = (41, 1) := by
  unfold decodeLastL
  rw [if_neg (by simp), abR (by simp), if_pos (by decide)]; rfl
 have ht : qV yC ([40] ++ (c :: t) ++ [41]) = [40] ++ (c :: t) ++ [41] := by
  unfold qV
  rw [acC (.inr (by rw [h40]; decide))]
  show aaK yC (([40] ++ (c :: t) ++ [41] : List UInt8).length - 1 + 1) _ = _
  rw [aeN _ _ (by simp), h41, if_neg (by decide)]
 have hp : trimPrefix ([40] ++ (c :: t) ++ [41]) [40] = (c :: t) ++ [41] := by simp [trimPrefix, hasPrefix, List.isPrefixOf]
 have hs : hasSuffix ((c :: t) ++ [41]) [41] = true := by unfold hasSuffix; rw [List.isSuffixOf_iff_suffix]; exact List.suffix_append _ _
 have hq : trimSuffix ((c :: t) ++ [41]) [41] = c :: t := by
  unfold trimSuffix
  rw [if_pos hs, show ((c :: t) ++ [41] : List UInt8).length - ([41] : List UInt8).length = (c :: t).length by simp]
  exact List.take_left
 have hi : abZ l ([40] ++ (c :: t) ++ [41]) = some (c :: t, true) := by
  unfold abZ
  rw [if_pos (by simp [hasPrefix, List.isPrefixOf]), hp, if_pos hs, hq, ajW (.inr (by rw [aeK hc]; exact acK hc)) (by simpa using hz)]
 unfold aaL
 rw [ht, hi]
 exact ajP (axC hl hc hz) hn hm
end
section
open Go Go.RowKit Go.Lib

structure Loc.moneyOk (l : Loc) : Prop where
 ne : l.cur ≠ []
 left : ∀ z, yC (decodeL (l.cur ++ z)).1 = false
 right : ∀ z, yC (decodeLastL (z ++ l.cur)).1 = false
 signs : ∀ z, hasPrefix (l.cur ++ z) [40] = false ∧ hasPrefix (l.cur ++ z) [43] = false ∧ hasPrefix (l.cur ++ z) [45] = false ∧ hasPrefix (l.cur ++ z) l.minus = false
theorem aiI {c : UInt8} (r z : List UInt8) (h : c.toNat < 128) (hb : yC c.toNat = false) : yC (decodeL ((c :: r) ++ z)).1 = false := by
 rw [show decodeL ((c :: r) ++ z) = (c.toNat, 1) by rw [decodeL_N]; exact decodeN_ascii _ _ _ _ _ h]; exact hb
theorem agK {c : UInt8} (r z : List UInt8) (h : c.toNat < 128) (hb : yC c.toNat = false) : yC (decodeLastL (z ++ (r ++ [c]))).1 = false := by
 have : decodeLastL (z ++ (r ++ [c])) = (c.toNat, 1) := by
  unfold decodeLastL
  rw [if_neg (by simp), ← List.append_assoc, abR (by simp), if_pos (by simpa using h)]; rfl
 rw [this]; exact hb
theorem afS {b : UInt8} (hb : b = 172 ∨ b = 185) (z : List UInt8) : yC (decodeL (([226, 130, b] : List UInt8) ++ z)).1 = false := by
 rcases hb with rfl | rfl
 ·have : decodeL (([226, 130, 172] : List UInt8) ++ z) = (8364, 3) := by
   rw [decodeL_N]
   simp only [List.cons_append, List.nil_append, List.getD_cons_zero, List.getD_cons_succ, List.length_cons]
   unfold decodeN
   simp
  rw [this]; decide
 ·have : decodeL (([226, 130, 185] : List UInt8) ++ z) = (8377, 3) := by
   rw [decodeL_N]
   simp only [List.cons_append, List.nil_append, List.getD_cons_zero, List.getD_cons_succ, List.length_cons]
   unfold decodeN
   simp
  rw [this]; decide
theorem agJ {b : UInt8} (hb : b = 172 ∨ b = 185) (z : List UInt8) : yC (decodeLastL (z ++ [226, 130, b])).1 = false := by
 have hst : lastStart (z ++ [226, 130, b]) = z.length := by
  have g2 : (z ++ [226, 130, b]).getD ((z ++ [226, 130, b]).length - 2) 0 = 130 := by simp [List.getD, List.getElem?_append]
  have g3 : (z ++ [226, 130, b]).getD ((z ++ [226, 130, b]).length - 3) 0 = 226 := by simp [List.getD, List.getElem?_append]
  unfold lastStart
  simp only [g2, g3]
  rw [if_neg (by simp), if_neg (by decide), if_neg (by simp), if_pos (by decide)]
  simp
 have e : (z ++ [226, 130, b]).getD ((z ++ [226, 130, b]).length - 1) 0 = b := by simp [List.getD, List.getElem?_append]
 have h0 := afS hb []
 rw [List.append_nil] at h0
 have hw : (decodeL [226, 130, b]).2 = 3 := by rcases hb with rfl | rfl <;> decide +kernel
 unfold decodeLastL
 rw [if_neg (by simp), e, if_neg (by rcases hb with rfl | rfl <;> decide), hst, List.drop_left]
 simp only
 rw [if_pos (by rw [hw]; simp)]
 exact h0
theorem azL : ∀ l ∈ locs, l.moneyOk := by
 intro l hl
 simp only [locs, List.mem_cons, List.not_mem_nil, or_false] at hl
 rcases hl with rfl | rfl | rfl | rfl | rfl | rfl
 ·exact { ne := by simp, left := fun z => aiI [72, 70] z (by decide) (by decide), right := fun z => agK [67, 72] z (by decide) (by decide), signs := fun z => ⟨yU (by simp), yU (by simp), yU (by simp), yU (by simp)⟩ }
 ·exact { ne := by simp, left := afS (.inl rfl), right := agJ (.inl rfl), signs := fun z => ⟨yU (by simp), yU (by simp), yU (by simp), yU (by simp)⟩ }
 ·exact { ne := by simp, left := fun z => aiI [] z (by decide) (by decide), right := fun z => agK [] z (by decide) (by decide), signs := fun z => ⟨yU (by simp), yU (by simp), yU (by simp), yU (by simp)⟩ }
 ·exact { ne := by simp, left := afS (.inl rfl), right := agJ (.inl rfl), signs := fun z => ⟨yU (by simp), yU (by simp), yU (by simp), yU (by simp)⟩ }
 ·exact { ne := by simp, left := afS (.inr rfl), right := agJ (.inr rfl), signs := fun z => ⟨yU (by simp), yU (by simp), yU (by simp), yU (by simp)⟩ }
 ·exact { ne := by simp, left := fun z => aiI [114] z (by decide) (by decide), right := fun z => agK [107] z (by decide) (by decide), signs := fun z => ⟨yU (by simp), yU (by simp), yU (by simp), yU (by simp)⟩ }
def spL (l : Loc) : List UInt8 := if l.space = true then [194, 160] else []
theorem trimL_sp (l : Loc) {c : UInt8} {t : List UInt8} (hc : isD c) : qZ yC (spL l ++ (c :: t)).length (spL l ++ (c :: t)) = c :: t := by
 have hs : ∀ f, qZ yC f (c :: t) = c :: t := acC (.inr (by rw [aeK hc]; exact acK hc))
 unfold spL
 split
 ·have h2 : decodeL (194 :: 160 :: (c :: t)) = (160, 2) := by
   rw [decodeL_N]
   simp only [List.getD_cons_zero, List.getD_cons_succ, List.length_cons]
   unfold decodeN
   simp
  show qZ yC ((c :: t).length + 1 + 1) (194 :: 160 :: (c :: t)) = _
  rw [agG _ _ (by simp), h2, if_pos (by decide)]
  exact hs _
 ·exact hs _
theorem trimR_sp (l : Loc) {t : List UInt8} (hz : isD (t.getD (t.length - 1) 0)) : aaK yC (t ++ spL l).length (t ++ spL l) = t := by
 have hs : ∀ f, aaK yC f t = t := amQ hz
 unfold spL
 split
 ·have g2 : (t ++ [194, 160]).getD ((t ++ [194, 160]).length - 2) 0 = 194 := by simp [List.getD, List.getElem?_append]
  have hst : lastStart (t ++ [194, 160]) = t.length := by
   unfold lastStart
   simp only [g2]
   rw [if_neg (by simp), if_pos (by decide)]
   simp
  have h2 : decodeLastL (t ++ [194, 160]) = (160, 2) := by
   unfold decodeLastL
   have e : (t ++ [194, 160]).getD ((t ++ [194, 160]).length - 1) 0 = 160 := by simp [List.getD, List.getElem?_append]
   rw [if_neg (by simp), e, if_neg (by decide), hst, List.drop_left, show decodeL [194, 160] = (160, 2) by decide +kernel]
   simp
  have hL : (t ++ [194, 160] : List UInt8).length = (t.length + 1) + 1 := by simp
  rw [hL, aeN _ _ (by simp), h2, if_pos (by decide)]
  have hT : (t ++ [194, 160] : List UInt8).take ((t ++ [194, 160] : List UInt8).length - 2) = t := by
   rw [show (t ++ [194, 160] : List UInt8).length - 2 = t.length by simp]; exact List.take_left
  show aaK yC _ ((t ++ [194, 160] : List UInt8).take ((t ++ [194, 160] : List UInt8).length - 2)) = t
  rw [hT]; exact hs _
 ·rw [List.append_nil]; exact hs _
theorem auO {l : Loc} (hl : l.fine) (hm0 : l.moneyOk) {c : UInt8} {t d ds : List UInt8} {e e' : Int} {k : Nat} {gr x : Bool} (hc : isD c) (hz : isD ((c :: t).getD t.length 0)) (hn : alH l (c :: t) = some (d, e', k, gr, x)) (hm : mkN false d e' = ((false, ds, e), 0)) :
  aaL l (qV yC (afG l (c :: t))) = if yY (qU false ds e) = 3 then (EntN.zero, 2) else (⟨qU false ds e, 2, k, gr, x⟩, 0) := by
 have hz2 : isD ((c :: t).getD ((c :: t).length - 1) 0) := by simpa using hz
 unfold afG
 by_cases hf : l.first = true
 ·rw [if_pos hf, show l.cur ++ (if l.space = true then [194, 160] else []) ++ (c :: t) = l.cur ++ (spL l ++ (c :: t)) by unfold spL; rw [List.append_assoc]]
  obtain ⟨s1, s2, s3, s4⟩ := hm0.signs (spL l ++ (c :: t))
  have hL := hm0.left (spL l ++ (c :: t))
  have ht : qV yC (l.cur ++ (spL l ++ (c :: t))) = l.cur ++ (spL l ++ (c :: t)) := ajW (.inr hL) (by rw [← List.append_assoc, abR (by simp)]; exact hz2)
  have hi : abZ l (l.cur ++ (spL l ++ (c :: t))) = some (l.cur ++ (spL l ++ (c :: t)), false) := by
   unfold abZ acA
   rw [s1, s2, s3, s4]
   simp only [Bool.false_eq_true, if_false]
   rw [acC (.inr hL)]
  have hp : hasPrefix (l.cur ++ (spL l ++ (c :: t))) l.cur = true := by unfold hasPrefix; rw [List.isPrefixOf_iff_prefix]; exact List.prefix_append _ _
  have ha : acP l (l.cur ++ (spL l ++ (c :: t))) = (2, c :: t, 0) := by
   unfold acP
   rw [if_pos hp]
   have : trimPrefix (l.cur ++ (spL l ++ (c :: t))) l.cur = spL l ++ (c :: t) := by unfold trimPrefix; rw [if_pos hp]; exact List.drop_left
   rw [this, trimL_sp l hc]
  unfold aaL
  rw [ht, hi]
  exact ajP ha hn hm
 ·rw [if_neg hf, show (c :: t) ++ (if l.space = true then [194, 160] else []) ++ l.cur = ((c :: t) ++ spL l) ++ l.cur by unfold spL; rfl]
  obtain ⟨m, q, hmm, hmd, _, _, _, _⟩ := hl.minus
  obtain ⟨a, r, ha0, had, _⟩ := hl.cur
  have hhd : ((c :: t) ++ spL l) ++ l.cur = c :: (t ++ spL l ++ l.cur) := by simp
  have hp : ∀ (k : UInt8) (z : List UInt8), ¬ isD k → hasPrefix (((c :: t) ++ spL l) ++ l.cur) (k :: z) = false := fun k z hk => by rw [hhd]; exact yU (fun e => by injection e with e; exact hk (e ▸ hc))
  have hL : yC (decodeL (((c :: t) ++ spL l) ++ l.cur)).1 = false := by rw [hhd, aeK hc]; exact acK hc
  have ht : qV yC (((c :: t) ++ spL l) ++ l.cur) = ((c :: t) ++ spL l) ++ l.cur := by
   unfold qV
   rw [acC (.inr hL)]
   show aaK yC ((t ++ spL l ++ l.cur).length + 1) _ = _
   rw [aeN _ _ (by simp), hm0.right, if_neg (by decide)]
  have hi : abZ l (((c :: t) ++ spL l) ++ l.cur) = some (((c :: t) ++ spL l) ++ l.cur, false) := by
   unfold abZ acA
   rw [hmm, hp 40 [] (notD (by decide)), hp 43 [] (notD (by decide)), hp 45 [] (notD (by decide)), hp m q hmd]
   simp only [Bool.false_eq_true, if_false]
   rw [acC (.inr hL)]
  have hs : hasSuffix (((c :: t) ++ spL l) ++ l.cur) l.cur = true := by unfold hasSuffix; rw [List.isSuffixOf_iff_suffix]; exact List.suffix_append _ _
  have ha : acP l (((c :: t) ++ spL l) ++ l.cur) = (2, c :: t, 0) := by
   unfold acP
   rw [if_neg (by rw [ha0]; rw [ha0] at hp; rw [hp a r had]; decide), if_pos hs]
   have : trimSuffix (((c :: t) ++ spL l) ++ l.cur) l.cur = (c :: t) ++ spL l := by
    unfold trimSuffix
    rw [if_pos hs, show (((c :: t) ++ spL l) ++ l.cur).length - l.cur.length = ((c :: t) ++ spL l).length by rw [List.length_append]; omega]
    exact List.take_left
   rw [this, trimR_sp l hz2]
  unfold aaL
  rw [ht, hi]
  exact ajP ha hn hm
end
section
open Go Go.RowKit Go.Lib

theorem asL {l : Loc} (hl : l.fine) (hg : l.grpOk) (hmo : l.moneyOk) {g neg : Bool} {ds : List UInt8} {e : Int} (hr : qG ds e = true) (hne : aaN l g neg ds ((ds.length : Int) + e) ≠ []) :
  ∃ (k : Nat) (gr : Bool), aaL l (qV yC (aaN l g neg ds ((ds.length : Int) + e))) = (if yY (qU neg ds e) = 3 then (EntN.zero, 2) else (⟨qU neg ds e, 0, k, gr, false⟩, 0)) ∧
   aaL l (qV yC (afG l (aaN l g false ds ((ds.length : Int) + e)))) = (if yY (qU false ds e) = 3 then (EntN.zero, 2) else (⟨qU false ds e, 2, k, gr, false⟩, 0)) ∧
   aaL l (qV yC ([40] ++ aaN l g false ds ((ds.length : Int) + e) ++ [41])) = (if yY (qU true ds e) = 3 then (EntN.zero, 2) else (⟨qU true ds e, 0, k, gr, false⟩, 0)) := by
 have hs : (qM ds ((ds.length : Int) + e)).2 = true := by
  cases h : (qM ds ((ds.length : Int) + e)).2 with
  | true => rfl
  | false => exact absurd (by unfold aaN; rw [h]; rfl) hne
 obtain ⟨hw, hn, hrr, hm⟩ := aiC (neg := neg) hr hs
 obtain ⟨_, _, _, hmf⟩ := aiC (neg := false) hr hs
 obtain ⟨_, _, _, hmt⟩ := aiC (neg := true) hr hs
 obtain ⟨gr, hnum⟩ := azC hl hg g hw hn hrr
 obtain ⟨c, t, hct, hc, hz⟩ := axJ (l := l) g hw hn hrr
 rw [ajS hs, ajS hs, hct]
 rw [hct] at hnum
 simp only [Bool.false_eq_true, if_false, List.nil_append]
 refine ⟨_, gr, auM hl neg hc hz hnum hm, auO hl hmo hc hz hnum hmf, ?_⟩
 have := auN hl hc hz hnum hmt
 exact this
theorem alP {x : Nat} (h : x ≤ ajF) (neg : Bool) : yY (aaD neg + x) = yY x := by
 unfold ajF at h
 unfold yY aaD
 cases neg
 ·simp
 ·repeat' split
  all_goals omega
theorem baN {neg : Bool} {ds : List UInt8} {e : Int} (hr : qG ds e = true) : qU neg ds e % 9223372036854775808 = qU false ds e ∧ qU true ds e = qU neg ds e % 9223372036854775808 + 9223372036854775808 ∧ yY (qU neg ds e) = yY (qU false ds e) ∧ yY (qU true ds e) = yY (qU neg ds e) := by
 have h := aqD (qP hr) e
 have h1 := alP h neg
 have h2 := alP h false
 have h3 := alP h true
 unfold qU
 rw [h1, h2, h3]
 unfold ajF at h
 refine ⟨?_, ?_, rfl, rfl⟩
 ·rw [show aaD false = 0 from rfl]; unfold aaD; split <;> omega
 ·rw [show aaD true = 9223372036854775808 from rfl]; unfold aaD; split <;> omega
end
theorem arF {l : Loc} (hk : l.ok) {s : List UInt8} : (afG l s).length ≤ s.length + 12 := by
 have h4 := hk.2.2.2.1
 have hsp : (if l.space = true then ([194, 160] : List UInt8) else []).length ≤ 2 := by split <;> simp
 unfold afG
 split <;> simp only [List.length_append] <;> omega
def WrOK (l : Loc) (g neg : Bool) (ds : List UInt8) (e : Int) (k : Nat) (gr : Bool) : Prop :=
 aaL l (qV yC (aaN l g neg ds ((ds.length : Int) + e))) = (if yY (qU neg ds e) = 3 then (EntN.zero, 2) else (⟨qU neg ds e, 0, k, gr, false⟩, 0)) ∧
   aaL l (qV yC (afG l (aaN l g false ds ((ds.length : Int) + e)))) = (if yY (qU false ds e) = 3 then (EntN.zero, 2) else (⟨qU false ds e, 2, k, gr, false⟩, 0)) ∧
   aaL l (qV yC ([40] ++ aaN l g false ds ((ds.length : Int) + e) ++ [41])) = (if yY (qU true ds e) = 3 then (EntN.zero, 2) else (⟨qU true ds e, 0, k, gr, false⟩, 0))
theorem axI {l : Loc} {g neg : Bool} {ds : List UInt8} {p : Int} : (aaN l g false ds p).length ≤ (aaN l g neg ds p).length := by
 unfold aaN
 split
 ·simp only [List.length_append]; simp
 ·simp

set_option maxRecDepth 100000 in
theorem avC (hsh : ∀ H, ACall Tryz.prog 8 [] H (fun y H' => y = .bool true ∧ H' = H)) (c : Int) (hc : -9223372036854775808 ≤ c ∧ c ≤ 9223372036854775807) (neg : Bool) (ds : List UInt8) (e : Int) (hlm : ds.length ≤ maxLen) (g : Bool) (H : Heap) : ACall Tryz.prog 7 [.int .i64 c, dA neg ds e, .bool g] H (fun y H' => y = .bool true ∧ H' = H) := by
 refine ACall.of_body Tryz.func7 rfl Tryz.ntmps7 Tryz.results7 rfl ?_
 refine AWP.seq ?_
 -- region 0
 refine AWP.region ?_
 refine AList.s rfl (aoE (.tmp _ _ rfl) (.inr ⟨_, rfl⟩)) ?_
 rintro _ _ ⟨b4, hb4, rfl, hH⟩
 obtain rfl := hH.symm
 refine AList.p rfl (zB zK) ?_
 refine AList.nil ?_
 refine Next.go ?_
 refine AWP.seq ?_
 -- region 1
 refine AWP.region ?_
 refine AList.s rfl (zP Tryz.call8 .nil (hsh _)) ?_
 rintro _ _ ⟨rfl, hH⟩
 obtain rfl := hH.symm
 refine AList.p rfl (zB (.tmp _ _ rfl)) ?_
 refine AList.nil ?_
 refine Next.go ?_
 refine AWP.seq ?_
 -- region 2
 refine AWP.region ?_
 first | (refine AList.p rfl (zU Tryz.isAgg48 Tryz.sizeOf48 (.tmp _ _ rfl) (Nat.le_of_ble_eq_true rfl)) ?_) | (refine AList.s rfl (yG Tryz.isAgg48 Tryz.sizeOf48 (.tmp _ _ rfl) (by first | assumption | exact (by assumption : Heap.le _ _).objs _ _ (by assumption) | exact Heap.objs_set_same _ _ _ | exact (Heap.objs_set_ne _ _ (by assumption)).trans (Heap.objs_set_same _ _ _) | exact (Heap.objs_set_ne _ _ (by assumption)).trans ((Heap.objs_set_ne _ _ (by assumption)).trans (Heap.objs_set_same _ _ _)) | exact (Heap.objs_set_ne _ _ (by assumption)).trans (by assumption)) (Nat.le_of_ble_eq_true rfl)) ?_; rintro _ _ ⟨rfl, hH⟩; obtain rfl := hH.symm)
 refine AList.s rfl (zP Tryz.call19 (.cons (.tmp _ _ rfl) .nil) (ajC neg ds e hlm _)) ?_
 rintro _ _ ⟨rfl, hH⟩
 obtain rfl := hH.symm
 refine AList.p rfl (zB (.tmp _ _ rfl)) ?_
 refine AList.nil ?_
 refine Next.go ?_
 refine AWP.seq ?_
 refine AWP.seqTo 34 (.bool (!(qG ds e) || decide (300 < (ds.length : Int)))) [0, 2, 4, 6, 7] ?_ ?_
 ·-- region 3
  refine AWP.region ?_
  refine AList.p rfl (zC (.tmp _ _ rfl)) ?_
  refine AList.p rfl (qY (.tmp _ _ rfl)) ?_
  refine AList.p rfl (zC (.tmp _ _ rfl)) ?_
  refine AList.gp rfl rfl rfl (by first | rfl | assumption) (zC (.tmp _ _ rfl)) ?_
  refine AList.gp rfl rfl rfl (by first | rfl | assumption) (qY (.tmp _ _ rfl)) ?_
  refine AList.p rfl (zM (.tmp _ _ rfl) (by first | rfl | assumption) (.tmp _ _ rfl)) ?_
  refine AList.p rfl (zC (.tmp _ _ rfl)) ?_
  -- the guard in slot 29
  refine zQ (t := 29) rfl (fun hg29 => ?_) (fun hg29 => ?_)
  ·refine AList.gn rfl rfl rfl (by first | rfl | assumption) ?_
   refine AList.gn rfl rfl rfl (by first | rfl | assumption) ?_
   refine AList.gn rfl rfl rfl (by first | rfl | assumption) ?_
   refine AList.gn rfl rfl rfl (by first | rfl | assumption) ?_
   refine AList.p rfl (zN (.tmp _ _ rfl) (by first | rfl | assumption) zK) ?_
   refine AList.nil ?_
   exact ⟨rfl, yV rfl (by first | rfl | (simp_all; done) | (simp_all; omega) | (simp [*]; done) | simp_all) (zA rfl (zA rfl (zA rfl (zA rfl (zA rfl zL))))), rfl⟩
  ·first | (refine AList.gp rfl rfl rfl (by first | rfl | assumption) (zG Tryz.underlying48 rfl Tryz.sizeOf9 (.tmp _ _ rfl)) ?_) | (refine AList.gp rfl rfl rfl (by first | rfl | assumption) (yB Tryz.underlying48 rfl Tryz.sizeOf9 (.tmp _ _ rfl)) ?_)
   first | (refine AList.gp rfl rfl rfl (by first | rfl | assumption) (zF Tryz.isAgg9 (.tmp _ _ rfl)) ?_) | (refine AList.gs rfl rfl rfl (by first | rfl | assumption) (yO Tryz.isAgg9 (.tmp _ _ rfl) (by first | assumption | exact (by assumption : Heap.le _ _).objs _ _ (by assumption) | exact Heap.objs_set_same _ _ _ | exact (Heap.objs_set_ne _ _ (by assumption)).trans (Heap.objs_set_same _ _ _) | exact (Heap.objs_set_ne _ _ (by assumption)).trans ((Heap.objs_set_ne _ _ (by assumption)).trans (Heap.objs_set_same _ _ _)) | exact (Heap.objs_set_ne _ _ (by assumption)).trans (by assumption)) rfl) ?_; rintro _ _ ⟨rfl, hH⟩; obtain rfl := hH.symm)
   refine AList.gp rfl rfl rfl (by first | rfl | assumption) (yJ Tryz.underlying9 (.tmp _ _ rfl)) ?_
   refine AList.gp rfl rfl rfl (by first | rfl | assumption) (yF (.tmp _ _ rfl) zE) ?_
   refine AList.p rfl (zM (.tmp _ _ rfl) (by first | rfl | assumption) (.tmp _ _ rfl)) ?_
   refine AList.nil ?_
   exact ⟨rfl, yV rfl (by first | rfl | (simp_all; done) | (simp_all; omega) | (simp [*]; done) | simp_all) (zA rfl (zA rfl (zA rfl (zA rfl (zA rfl zL))))), rfl⟩
 ·refine AWP.sub [(34, _), (0, _), (2, _), (4, _), (6, _), (7, _)] (zA rfl (zA rfl (zA rfl (zA rfl (zA rfl (zA rfl zL)))))) ?_
  -- c0
  refine AWP.cond (.tmp _ _ rfl) (fun hc34 => ?_) (fun hc34 => ?_)
  ·try simp only [decide_eq_true_eq, decide_eq_false_iff_not, Bool.not_eq_true', Bool.not_eq_false', Int.not_lt, Int.not_le, ne_eq, Decidable.not_not] at hc34
   refine AWP.seq ?_
   -- region 4
   refine AWP.region ?_
   refine AList.p rfl (zC (.tmp _ _ rfl)) ?_
   refine AList.p rfl (zB (.tmp _ _ rfl)) ?_
   refine AList.nil ?_
   refine Next.go ?_
   refine AWP.dropb (by first | exact hb4 | exact Heap.fresh_set hb4 _) ?_
   refine AWP.ret ?_
   refine Next.rt ?_
   -- ret 0
   refine Ret.go (.cons (.tmp _ _ rfl) .nil) _ (Heap.le.refl _) ?_
   exact ⟨rfl, rfl⟩
  ·try simp only [decide_eq_true_eq, decide_eq_false_iff_not, Bool.not_eq_true', Bool.not_eq_false', Int.not_lt, Int.not_le, ne_eq, Decidable.not_not] at hc34
   simp only [Bool.or_eq_false_iff, Bool.not_eq_false', decide_eq_false_iff_not] at hc34
   obtain ⟨hr, hl3⟩ := hc34
   refine AWP.skip ?_
   refine Next.go ?_
   refine AWP.seq ?_
   -- region 5
   refine AWP.region ?_
   refine AList.p rfl (zC (.tmp _ _ rfl)) ?_
   refine AList.s rfl (zP Tryz.call9 (.cons (.tmp _ _ rfl) .nil) (auJ c hc _)) ?_
   rintro _ _ ⟨⟨l, hml, rfl⟩, hH⟩
   obtain rfl := hH.symm
   have hk := aeQ l hml
   have hgr := aeR l hml
   refine AList.p rfl (zC (.tmp _ _ rfl)) ?_
   refine AList.p rfl (zD (.tmp _ _ rfl) rfl) ?_
   refine AList.p rfl (zD (.tmp _ _ rfl) rfl) ?_
   refine AList.s rfl (zT Tryz.zeroValue25 (zr25)) ?_
   rintro _ _ ⟨b9, hb9, rfl, hH⟩
   obtain rfl := hH.symm
   have hn4_9 := Heap.ne_of (by first | assumption | exact (by assumption : Heap.le _ _).objs _ _ (by assumption) | exact Heap.objs_set_same _ _ _ | exact (Heap.objs_set_ne _ _ (by assumption)).trans (Heap.objs_set_same _ _ _) | exact (Heap.objs_set_ne _ _ (by assumption)).trans ((Heap.objs_set_ne _ _ (by assumption)).trans (Heap.objs_set_same _ _ _)) | exact (Heap.objs_set_ne _ _ (by assumption)).trans (by assumption)) hb9
   refine AList.s rfl (zT Tryz.zeroValue27 (zr27)) ?_
   rintro _ _ ⟨b10, hb10, rfl, hH⟩
   obtain rfl := hH.symm
   have hn4_10 := Heap.ne_of (by first | assumption | exact (by assumption : Heap.le _ _).objs _ _ (by assumption) | exact Heap.objs_set_same _ _ _ | exact (Heap.objs_set_ne _ _ (by assumption)).trans (Heap.objs_set_same _ _ _) | exact (Heap.objs_set_ne _ _ (by assumption)).trans ((Heap.objs_set_ne _ _ (by assumption)).trans (Heap.objs_set_same _ _ _)) | exact (Heap.objs_set_ne _ _ (by assumption)).trans (by assumption)) hb10
   have hn9_10 := Heap.ne_of (by first | assumption | exact (by assumption : Heap.le _ _).objs _ _ (by assumption) | exact Heap.objs_set_same _ _ _ | exact (Heap.objs_set_ne _ _ (by assumption)).trans (Heap.objs_set_same _ _ _) | exact (Heap.objs_set_ne _ _ (by assumption)).trans ((Heap.objs_set_ne _ _ (by assumption)).trans (Heap.objs_set_same _ _ _)) | exact (Heap.objs_set_ne _ _ (by assumption)).trans (by assumption)) hb10
   refine AList.s0 (zH Tryz.sizeOf25 (.tmp _ _ rfl) (.tmp _ _ rfl) rfl rfl (.inr ⟨_, rfl⟩) (by first | assumption | exact (by assumption : Heap.le _ _).objs _ _ (by assumption) | exact Heap.objs_set_same _ _ _ | exact (Heap.objs_set_ne _ _ (by assumption)).trans (Heap.objs_set_same _ _ _) | exact (Heap.objs_set_ne _ _ (by assumption)).trans ((Heap.objs_set_ne _ _ (by assumption)).trans (Heap.objs_set_same _ _ _)) | exact (Heap.objs_set_ne _ _ (by assumption)).trans (by assumption)) (Nat.le_of_ble_eq_true rfl)) ?_
   rintro _ _ ⟨rfl, hH⟩
   obtain rfl := hH.symm
   try first | rw [Heap.set_set] | rw [Heap.set_under (by assumption)]
   refine AList.s0 (zH Tryz.sizeOf27 (.tmp _ _ rfl) (.tmp _ _ rfl) rfl rfl (.inr ⟨_, rfl⟩) (by first | assumption | exact (by assumption : Heap.le _ _).objs _ _ (by assumption) | exact Heap.objs_set_same _ _ _ | exact (Heap.objs_set_ne _ _ (by assumption)).trans (Heap.objs_set_same _ _ _) | exact (Heap.objs_set_ne _ _ (by assumption)).trans ((Heap.objs_set_ne _ _ (by assumption)).trans (Heap.objs_set_same _ _ _)) | exact (Heap.objs_set_ne _ _ (by assumption)).trans (by assumption)) (Nat.le_of_ble_eq_true rfl)) ?_
   rintro _ _ ⟨rfl, hH⟩
   obtain rfl := hH.symm
   try first | rw [Heap.set_set] | rw [Heap.set_under (by assumption)]
   refine AList.nil ?_
   refine Next.go ?_
   refine AWP.frz (t := 10) rfl (by first | exact hb10 | exact Heap.fresh_set hb10 _) ?_
   refine AWP.frz (t := 9) rfl (by first | exact hb9 | exact Heap.fresh_set hb9 _) ?_
   refine AWP.seq ?_
   -- region 6
   refine AWP.region ?_
   first | (refine AList.p rfl (zU Tryz.isAgg25 Tryz.sizeOf25 (.tmp _ _ rfl) (Nat.le_of_ble_eq_true rfl)) ?_) | (refine AList.s rfl (yG Tryz.isAgg25 Tryz.sizeOf25 (.tmp _ _ rfl) (by first | assumption | exact (by assumption : Heap.le _ _).objs _ _ (by assumption) | exact Heap.objs_set_same _ _ _ | exact (Heap.objs_set_ne _ _ (by assumption)).trans (Heap.objs_set_same _ _ _) | exact (Heap.objs_set_ne _ _ (by assumption)).trans ((Heap.objs_set_ne _ _ (by assumption)).trans (Heap.objs_set_same _ _ _)) | exact (Heap.objs_set_ne _ _ (by assumption)).trans (by assumption)) (Nat.le_of_ble_eq_true rfl)) ?_; rintro _ _ ⟨rfl, hH⟩; obtain rfl := hH.symm)
   first | (refine AList.p rfl (zU Tryz.isAgg48 Tryz.sizeOf48 (.tmp _ _ rfl) (Nat.le_of_ble_eq_true rfl)) ?_) | (refine AList.s rfl (yG Tryz.isAgg48 Tryz.sizeOf48 (.tmp _ _ rfl) (by first | assumption | exact (by assumption : Heap.le _ _).objs _ _ (by assumption) | exact Heap.objs_set_same _ _ _ | exact (Heap.objs_set_ne _ _ (by assumption)).trans (Heap.objs_set_same _ _ _) | exact (Heap.objs_set_ne _ _ (by assumption)).trans ((Heap.objs_set_ne _ _ (by assumption)).trans (Heap.objs_set_same _ _ _)) | exact (Heap.objs_set_ne _ _ (by assumption)).trans (by assumption)) (Nat.le_of_ble_eq_true rfl)) ?_; rintro _ _ ⟨rfl, hH⟩; obtain rfl := hH.symm)
   refine AList.p rfl (zC (.tmp _ _ rfl)) ?_
   refine AList.s rfl (zP Tryz.call20 (.cons (.tmp _ _ rfl) (.cons (.tmp _ _ rfl) (.cons (.tmp _ _ rfl) .nil))) (adY l hk g neg ds e hr _)) ?_
   rintro _ _ ⟨rfl, hH⟩
   obtain rfl := hH.symm
   refine AList.p rfl (zB (.tmp _ _ rfl)) ?_
   refine AList.nil ?_
   refine Next.go ?_
   refine AWP.seq ?_
   refine AWP.seqTo 51 (.bool (decide ((aaN l g neg ds ((ds.length : Int) + e)) = []) || decide (900 < ((aaN l g neg ds ((ds.length : Int) + e)).length : Int)))) [2, 4, 6, 9, 11] ?_ ?_
   ·-- region 7
    refine AWP.region ?_
    refine AList.p rfl (zC (.tmp _ _ rfl)) ?_
    refine AList.p rfl (qK (.tmp _ _ rfl) (zS rfl)) ?_
    refine AList.p rfl (zC (.tmp _ _ rfl)) ?_
    -- the guard in slot 47
    refine zQ (t := 47) rfl (fun hg47 => ?_) (fun hg47 => ?_)
    ·refine AList.gn rfl rfl rfl (by first | rfl | assumption) ?_
     refine AList.gn rfl rfl rfl (by first | rfl | assumption) ?_
     refine AList.gn rfl rfl rfl (by first | rfl | assumption) ?_
     refine AList.p rfl (zN (.tmp _ _ rfl) (by first | rfl | assumption) zK) ?_
     refine AList.nil ?_
     exact ⟨rfl, yV rfl (by first | rfl | (simp_all; done) | (simp_all; omega) | (simp [*]; done) | simp_all) (zA rfl (zA rfl (zA rfl (zA rfl (zA rfl zL))))), rfl⟩
    ·refine AList.gp rfl rfl rfl (by first | rfl | assumption) (zC (.tmp _ _ rfl)) ?_
     refine AList.gp rfl rfl rfl (by first | rfl | assumption) (yJ Tryz.underlying9 (.tmp _ _ rfl)) ?_
     refine AList.gp rfl rfl rfl (by first | rfl | assumption) (yF (.tmp _ _ rfl) zE) ?_
     refine AList.p rfl (zM (.tmp _ _ rfl) (by first | rfl | assumption) (.tmp _ _ rfl)) ?_
     refine AList.nil ?_
     exact ⟨rfl, yV rfl (by first | rfl | (simp_all; done) | (simp_all; omega) | (simp [*]; done) | simp_all) (zA rfl (zA rfl (zA rfl (zA rfl (zA rfl zL))))), rfl⟩
   ·refine AWP.sub [(51, _), (2, _), (4, _), (6, _), (9, _), (11, _)] (zA rfl (zA rfl (zA rfl (zA rfl (zA rfl (zA rfl zL)))))) ?_
    -- c1
    refine AWP.cond (.tmp _ _ rfl) (fun hc51 => ?_) (fun hc51 => ?_)
    ·try simp only [decide_eq_true_eq, decide_eq_false_iff_not, Bool.not_eq_true', Bool.not_eq_false', Int.not_lt, Int.not_le, ne_eq, Decidable.not_not] at hc51
     refine AWP.seq ?_
     -- region 8
     refine AWP.region ?_
     refine AList.p rfl (zB zK) ?_
     refine AList.nil ?_
     refine Next.go ?_
     refine AWP.dropb (by first | exact hb4 | exact Heap.fresh_set hb4 _) ?_
     refine AWP.ret ?_
     refine Next.rt ?_
     -- ret 1
     refine Ret.go (.cons (.tmp _ _ rfl) .nil) _ (Heap.le.refl _) ?_
     exact ⟨rfl, rfl⟩
    ·try simp only [decide_eq_true_eq, decide_eq_false_iff_not, Bool.not_eq_true', Bool.not_eq_false', Int.not_lt, Int.not_le, ne_eq, Decidable.not_not] at hc51
     simp only [Bool.or_eq_false_iff, decide_eq_false_iff_not] at hc51
     obtain ⟨hne, hlw⟩ := hc51
     have hlf := @axI l g neg ds ((ds.length : Int) + e)
     obtain ⟨kp, gr, hW⟩ : ∃ kp gr, WrOK l g neg ds e kp gr := asL (beA l hml) (azM l hml) (azL l hml) (g := g) (neg := neg) hr hne
     refine AWP.skip ?_
     refine Next.go ?_
     refine AWP.seq ?_
     -- region 9
     refine AWP.region ?_
     first | (refine AList.p rfl (zU Tryz.isAgg48 Tryz.sizeOf48 (.tmp _ _ rfl) (Nat.le_of_ble_eq_true rfl)) ?_) | (refine AList.s rfl (yG Tryz.isAgg48 Tryz.sizeOf48 (.tmp _ _ rfl) (by first | assumption | exact (by assumption : Heap.le _ _).objs _ _ (by assumption) | exact Heap.objs_set_same _ _ _ | exact (Heap.objs_set_ne _ _ (by assumption)).trans (Heap.objs_set_same _ _ _) | exact (Heap.objs_set_ne _ _ (by assumption)).trans ((Heap.objs_set_ne _ _ (by assumption)).trans (Heap.objs_set_same _ _ _)) | exact (Heap.objs_set_ne _ _ (by assumption)).trans (by assumption)) (Nat.le_of_ble_eq_true rfl)) ?_; rintro _ _ ⟨rfl, hH⟩; obtain rfl := hH.symm)
     refine AList.s rfl (zP Tryz.call18 (.cons (.tmp _ _ rfl) .nil) (aqV neg ds e hr (by omega) _)) ?_
     rintro _ _ ⟨rfl, hH⟩
     obtain rfl := hH.symm
     rw [bcR hr]
     refine AList.p rfl (zB (.tmp _ _ rfl)) ?_
     refine AList.nil ?_
     refine Next.go ?_
     refine AWP.seq ?_
     -- region 10
     refine AWP.region ?_
     first | (refine AList.p rfl (zU Tryz.isAgg25 Tryz.sizeOf25 (.tmp _ _ rfl) (Nat.le_of_ble_eq_true rfl)) ?_) | (refine AList.s rfl (yG Tryz.isAgg25 Tryz.sizeOf25 (.tmp _ _ rfl) (by first | assumption | exact (by assumption : Heap.le _ _).objs _ _ (by assumption) | exact Heap.objs_set_same _ _ _ | exact (Heap.objs_set_ne _ _ (by assumption)).trans (Heap.objs_set_same _ _ _) | exact (Heap.objs_set_ne _ _ (by assumption)).trans ((Heap.objs_set_ne _ _ (by assumption)).trans (Heap.objs_set_same _ _ _)) | exact (Heap.objs_set_ne _ _ (by assumption)).trans (by assumption)) (Nat.le_of_ble_eq_true rfl)) ?_; rintro _ _ ⟨rfl, hH⟩; obtain rfl := hH.symm)
     refine AList.s rfl (zP Tryz.call10 (.cons (.tmp _ _ rfl) .nil) (aiL l _)) ?_
     rintro _ _ ⟨b, hb0, rfl, rfl⟩
     have hn4b := Heap.fresh_ne hb0
     have hnb := Ne.symm hn4b
     rw [Heap.set_comm hn4b]
     rw [Heap.objs_set_ne _ _ hnb] at hb0
     replace hb4 : (H.set b (.box 129 (abI ahP))).objs b4 = none := (Heap.objs_set_ne _ _ hn4b).trans hb4
     refine AList.p rfl (zB (.tmp _ _ rfl)) ?_
     refine AList.nil ?_
     refine Next.go ?_
     refine AWP.seq ?_
     -- region 11
     refine AWP.region ?_
     refine AList.p rfl (zC (.tmp _ _ rfl)) ?_
     refine AList.p rfl (zC (.tmp _ _ rfl)) ?_
     refine AList.s rfl (zP Tryz.call11 (.cons (.tmp _ _ rfl) (.cons (.tmp _ _ rfl) .nil)) (aaH l hk hgr ahP alR (aaN l g neg ds ((ds.length : Int) + e)) (by omega) b _ (by first | exact Heap.objs_set_same _ _ _ | exact (Heap.objs_set_ne _ _ hnb).trans (Heap.objs_set_same _ _ _) | exact (Heap.objs_set_ne _ _ hn16).trans ((Heap.objs_set_ne _ _ hnb).trans (Heap.objs_set_same _ _ _))))) ?_
     rintro _ _ ⟨rfl, f1, hf1, rfl⟩
     rw [Heap.set_under hnb]
     have hE1 := hW.1
     generalize aaL l (qV yC (aaN l g neg ds ((ds.length : Int) + e))) = ou at hE1 ⊢
     obtain ⟨o, er⟩ := ou
     dsimp only
     refine AList.p rfl (zC (.tmp _ _ rfl)) ?_
     refine AList.p rfl (zD (.tmp _ _ rfl) rfl) ?_
     refine AList.p rfl (zD (.tmp _ _ rfl) rfl) ?_
     refine AList.s rfl (zT Tryz.zeroValue32 (zr32)) ?_
     rintro _ _ ⟨b14, hb14, rfl, hH⟩
     obtain rfl := hH.symm
     have hn4_14 := Heap.ne_of (by first | assumption | exact (by assumption : Heap.le _ _).objs _ _ (by assumption) | exact Heap.objs_set_same _ _ _ | exact (Heap.objs_set_ne _ _ (by assumption)).trans (Heap.objs_set_same _ _ _) | exact (Heap.objs_set_ne _ _ (by assumption)).trans ((Heap.objs_set_ne _ _ (by assumption)).trans (Heap.objs_set_same _ _ _)) | exact (Heap.objs_set_ne _ _ (by assumption)).trans (by assumption)) hb14
     refine AList.s0 (zH Tryz.sizeOf32 (.tmp _ _ rfl) (.tmp _ _ rfl) rfl rfl (.inr ⟨_, rfl⟩) (by first | assumption | exact (by assumption : Heap.le _ _).objs _ _ (by assumption) | exact Heap.objs_set_same _ _ _ | exact (Heap.objs_set_ne _ _ (by assumption)).trans (Heap.objs_set_same _ _ _) | exact (Heap.objs_set_ne _ _ (by assumption)).trans ((Heap.objs_set_ne _ _ (by assumption)).trans (Heap.objs_set_same _ _ _)) | exact (Heap.objs_set_ne _ _ (by assumption)).trans (by assumption)) (Nat.le_of_ble_eq_true rfl)) ?_
     rintro _ _ ⟨rfl, hH⟩
     obtain rfl := hH.symm
     try first | rw [Heap.set_set] | rw [Heap.set_under (by assumption)]
     refine AList.p rfl (zB (.tmp _ _ rfl)) ?_
     refine AList.nil ?_
     refine Next.go ?_
     refine AWP.frz (t := 14) rfl (by first | exact hb14 | exact Heap.fresh_set hb14 _) ?_
     refine AWP.seq ?_
     refine AWP.seq ?_
     -- region 12
     refine AWP.region ?_
     refine AList.p rfl (zC (.tmp _ _ rfl)) ?_
     refine AList.s rfl (zP Tryz.call16 (.cons (.tmp _ _ rfl) .nil) (atK _ (bits_64 hr) _)) ?_
     rintro _ _ ⟨rfl, hH⟩
     obtain rfl := hH.symm
     refine AList.p rfl (yA (.tmp _ _ rfl) zE) ?_
     refine AList.nil ?_
     refine Next.go ?_
     -- c2
     refine AWP.cond (.tmp _ _ rfl) (fun hc64 => ?_) (fun hc64 => ?_)
     ·try simp only [decide_eq_true_eq, decide_eq_false_iff_not, Bool.not_eq_true', Bool.not_eq_false', Int.not_lt, Int.not_le, ne_eq, Decidable.not_not] at hc64
      have hk3 : yY (qU neg ds e) = 3 := by omega
      rw [if_pos hk3] at hE1
      injection hE1 with h1 h2
      subst h2
      refine AWP.seq ?_
      -- region 13
      refine AWP.region ?_
      refine AList.p rfl (zC (.tmp _ _ rfl)) ?_
      refine AList.p rfl (yA (.tmp _ _ rfl) zE) ?_
      refine AList.p rfl (zB (.tmp _ _ rfl)) ?_
      refine AList.nil ?_
      refine Next.go ?_
      refine AWP.dropb (by first | exact hb4 | exact Heap.fresh_set hb4 _) ?_
      refine AWP.ret ?_
      refine Next.rt ?_
      -- ret 2
      refine Ret.go (.cons (.tmp _ _ rfl) .nil) H (Heap.le_set hb0 _) ?_
      exact ⟨rfl, rfl⟩
     ·try simp only [decide_eq_true_eq, decide_eq_false_iff_not, Bool.not_eq_true', Bool.not_eq_false', Int.not_lt, Int.not_le, ne_eq, Decidable.not_not] at hc64
      have hk3 : ¬ yY (qU neg ds e) = 3 := by omega
      rw [if_neg hk3] at hE1
      injection hE1 with h1 h2
      subst h1 h2
      obtain ⟨hp1, hp2, hp3, hp4⟩ := baN (neg := neg) hr
      have hkf : ¬ yY (qU false ds e) = 3 := by omega
      have hkt : ¬ yY (qU true ds e) = 3 := by omega
      have hq1 : decide (((qU neg ds e : Nat) : Int) = ((qU neg ds e : Nat) : Int)) = true := decide_eq_true rfl
      have hq2 : decide (((qU false ds e : Nat) : Int) = ((qU neg ds e % 9223372036854775808 : Nat) : Int)) = true := decide_eq_true (by omega)
      have hq3 : decide (((qU true ds e : Nat) : Int) = ((qU neg ds e % 9223372036854775808 + 9223372036854775808 : Nat) : Int)) = true := decide_eq_true (by omega)
      refine AWP.skip ?_
      refine Next.go ?_
      refine AWP.seq ?_
      -- region 14
      refine AWP.region ?_
      first | (refine AList.p rfl (zG Tryz.underlying48 rfl Tryz.sizeOf4 (.tmp _ _ rfl)) ?_) | (refine AList.p rfl (yB Tryz.underlying48 rfl Tryz.sizeOf4 (.tmp _ _ rfl)) ?_)
      refine AList.s0 (zH Tryz.sizeOf4 (.tmp _ _ rfl) zK rfl rfl (.inl rfl) (by first | assumption | exact (by assumption : Heap.le _ _).objs _ _ (by assumption) | exact Heap.objs_set_same _ _ _ | exact (Heap.objs_set_ne _ _ (by assumption)).trans (Heap.objs_set_same _ _ _) | exact (Heap.objs_set_ne _ _ (by assumption)).trans ((Heap.objs_set_ne _ _ (by assumption)).trans (Heap.objs_set_same _ _ _)) | exact (Heap.objs_set_ne _ _ (by assumption)).trans (by assumption)) (Nat.le_of_ble_eq_true rfl)) ?_
      rintro _ _ ⟨rfl, hH⟩
      obtain rfl := hH.symm
      try first | rw [Heap.set_set] | rw [Heap.set_under (by assumption)]
      refine AList.nil ?_
      refine Next.go ?_
      refine AWP.frz (t := 4) rfl (by first | exact hb4 | exact Heap.fresh_set hb4 _) ?_
      refine AWP.seq ?_
      -- region 15
      refine AWP.drawT (.op 0 true (.op 1 true (.op 2 true (.op 3 true (.op 4 true (.op 5 true (.op 6 true (.two 7 (.op 8 true (.op 9 true (.op 10 true (.op 11 false (.op 12 false (.op 13 true .done)))))) 11 (.op 7 false (.op 8 true (.op 9 true (.op 10 true (.op 12 false (.op 13 true .done)))))))))))))) rfl (by decide +kernel) ?_
      refine ATree.p rfl rfl (zC (.tmp _ _ rfl)) ?_
      first | (refine ATree.p rfl rfl (zU Tryz.isAgg25 Tryz.sizeOf25 (.tmp _ _ rfl) (Nat.le_of_ble_eq_true rfl)) ?_) | (refine ATree.f rfl rfl (fun _ => yG Tryz.isAgg25 Tryz.sizeOf25 (.tmp _ _ rfl) (by first | assumption | exact (by assumption : Heap.le _ _).objs _ _ (by assumption) | exact Heap.objs_set_same _ _ _ | exact (Heap.objs_set_ne _ _ (by assumption)).trans (Heap.objs_set_same _ _ _) | exact (Heap.objs_set_ne _ _ (by assumption)).trans ((Heap.objs_set_ne _ _ (by assumption)).trans (Heap.objs_set_same _ _ _)) | exact (Heap.objs_set_ne _ _ (by assumption)).trans (by assumption)) (Nat.le_of_ble_eq_true rfl)) ?_)
      first | (refine ATree.p rfl rfl (zU Tryz.isAgg25 Tryz.sizeOf25 (.tmp _ _ rfl) (Nat.le_of_ble_eq_true rfl)) ?_) | (refine ATree.f rfl rfl (fun _ => yG Tryz.isAgg25 Tryz.sizeOf25 (.tmp _ _ rfl) (by first | assumption | exact (by assumption : Heap.le _ _).objs _ _ (by assumption) | exact Heap.objs_set_same _ _ _ | exact (Heap.objs_set_ne _ _ (by assumption)).trans (Heap.objs_set_same _ _ _) | exact (Heap.objs_set_ne _ _ (by assumption)).trans ((Heap.objs_set_ne _ _ (by assumption)).trans (Heap.objs_set_same _ _ _)) | exact (Heap.objs_set_ne _ _ (by assumption)).trans (by assumption)) (Nat.le_of_ble_eq_true rfl)) ?_)
      first | (refine ATree.p rfl rfl (zU Tryz.isAgg48 Tryz.sizeOf48 (.tmp _ _ rfl) (Nat.le_of_ble_eq_true rfl)) ?_) | (refine ATree.f rfl rfl (fun _ => yG Tryz.isAgg48 Tryz.sizeOf48 (.tmp _ _ rfl) (by first | assumption | exact (by assumption : Heap.le _ _).objs _ _ (by assumption) | exact Heap.objs_set_same _ _ _ | exact (Heap.objs_set_ne _ _ (by assumption)).trans (Heap.objs_set_same _ _ _) | exact (Heap.objs_set_ne _ _ (by assumption)).trans ((Heap.objs_set_ne _ _ (by assumption)).trans (Heap.objs_set_same _ _ _)) | exact (Heap.objs_set_ne _ _ (by assumption)).trans (by assumption)) (Nat.le_of_ble_eq_true rfl)) ?_)
      refine ATree.p rfl rfl (zC (.tmp _ _ rfl)) ?_
      refine ATree.f rfl rfl (fun _ => zP Tryz.call20 (.cons (.tmp _ _ rfl) (.cons (.tmp _ _ rfl) (.cons (.tmp _ _ rfl) .nil))) (adY l hk g false ds e hr _)) ?_
      refine ATree.f rfl rfl (fun _ => zP Tryz.call21 (.cons (.tmp _ _ rfl) (.cons (.tmp _ _ rfl) .nil)) (avF l hk (aaN l g false ds ((ds.length : Int) + e)) (by omega) _)) ?_
      refine ⟨?_, ?_⟩
      ·refine XTree.s rfl rfl (zP Tryz.call11 (.cons (.tmp _ _ rfl) (.cons (.tmp _ _ rfl) .nil)) (aaH l hk hgr f1 hf1 (afG l (aaN l g false ds ((ds.length : Int) + e))) (by have := @arF l hk (aaN l g false ds ((ds.length : Int) + e)); omega) b _ (by first | exact Heap.objs_set_same _ _ _ | exact (Heap.objs_set_ne _ _ (Heap.fresh_ne hb16)).trans (Heap.objs_set_same _ _ _)))) ?_
       rintro _ _ ⟨rfl, f2, hf2, rfl⟩
       first | rw [Heap.set_under (Heap.fresh_ne hb16)] | rw [Heap.set_set]
       rw [hW.2.1, if_neg hkf]
       refine ATree.p rfl rfl (zC (.tmp _ _ rfl)) ?_
       refine ATree.p rfl rfl (zD (.tmp _ _ rfl) rfl) ?_
       refine ATree.p rfl rfl (zD (.tmp _ _ rfl) rfl) ?_
       refine ATree.s rfl rfl (zT Tryz.zeroValue32 (zr32)) ?_
       rintro _ _ ⟨b16, hb16, rfl, hH⟩
       obtain rfl := hH.symm
       refine ATree.s0 rfl (zH Tryz.sizeOf32 (.tmp _ _ rfl) (.tmp _ _ rfl) rfl rfl (.inr ⟨_, rfl⟩) (by first | assumption | exact (by assumption : Heap.le _ _).objs _ _ (by assumption) | exact Heap.objs_set_same _ _ _ | exact (Heap.objs_set_ne _ _ (by assumption)).trans (Heap.objs_set_same _ _ _) | exact (Heap.objs_set_ne _ _ (by assumption)).trans ((Heap.objs_set_ne _ _ (by assumption)).trans (Heap.objs_set_same _ _ _)) | exact (Heap.objs_set_ne _ _ (by assumption)).trans (by assumption)) (Nat.le_of_ble_eq_true rfl)) ?_
       rintro _ _ ⟨rfl, hH⟩
       obtain rfl := hH.symm
       try first | rw [Heap.set_set] | rw [Heap.set_under (by assumption)]
       refine ATree.p rfl rfl (zB (.tmp _ _ rfl)) ?_
       refine ATree.nil ?_
       refine Next.go ?_
       refine AWP.frz (t := 16) rfl (by first | exact hb16 | exact Heap.fresh_set hb16 _) ?_
       refine AWP.seq ?_
       -- region 16
       refine AWP.region ?_
       refine AList.p rfl (zC (.tmp _ _ rfl)) ?_
       first | (refine AList.p rfl (zU Tryz.isAgg25 Tryz.sizeOf25 (.tmp _ _ rfl) (Nat.le_of_ble_eq_true rfl)) ?_) | (refine AList.s rfl (yG Tryz.isAgg25 Tryz.sizeOf25 (.tmp _ _ rfl) (by first | assumption | exact (by assumption : Heap.le _ _).objs _ _ (by assumption) | exact Heap.objs_set_same _ _ _ | exact (Heap.objs_set_ne _ _ (by assumption)).trans (Heap.objs_set_same _ _ _) | exact (Heap.objs_set_ne _ _ (by assumption)).trans ((Heap.objs_set_ne _ _ (by assumption)).trans (Heap.objs_set_same _ _ _)) | exact (Heap.objs_set_ne _ _ (by assumption)).trans (by assumption)) (Nat.le_of_ble_eq_true rfl)) ?_; rintro _ _ ⟨rfl, hH⟩; obtain rfl := hH.symm)
       first | (refine AList.p rfl (zU Tryz.isAgg48 Tryz.sizeOf48 (.tmp _ _ rfl) (Nat.le_of_ble_eq_true rfl)) ?_) | (refine AList.s rfl (yG Tryz.isAgg48 Tryz.sizeOf48 (.tmp _ _ rfl) (by first | assumption | exact (by assumption : Heap.le _ _).objs _ _ (by assumption) | exact Heap.objs_set_same _ _ _ | exact (Heap.objs_set_ne _ _ (by assumption)).trans (Heap.objs_set_same _ _ _) | exact (Heap.objs_set_ne _ _ (by assumption)).trans ((Heap.objs_set_ne _ _ (by assumption)).trans (Heap.objs_set_same _ _ _)) | exact (Heap.objs_set_ne _ _ (by assumption)).trans (by assumption)) (Nat.le_of_ble_eq_true rfl)) ?_; rintro _ _ ⟨rfl, hH⟩; obtain rfl := hH.symm)
       refine AList.p rfl (zC (.tmp _ _ rfl)) ?_
       refine AList.s rfl (zP Tryz.call20 (.cons (.tmp _ _ rfl) (.cons (.tmp _ _ rfl) (.cons (.tmp _ _ rfl) .nil))) (adY l hk g false ds e hr _)) ?_
       rintro _ _ ⟨rfl, hH⟩
       obtain rfl := hH.symm
       refine AList.p rfl (yK (zS rfl) (.tmp _ _ rfl) (by simp only [zX, List.length_append, List.length_cons, List.length_nil] at *; omega)) ?_
       refine AList.p rfl (yK (.tmp _ _ rfl) (zS rfl) (by simp only [zX, List.length_append, List.length_cons, List.length_nil] at *; omega)) ?_
       refine AList.s rfl (zP Tryz.call11 (.cons (.tmp _ _ rfl) (.cons (.tmp _ _ rfl) .nil)) (aaH l hk hgr f2 hf2 ([40] ++ (aaN l g false ds ((ds.length : Int) + e)) ++ [41]) (by simp only [List.length_append, List.length_cons, List.length_nil]; omega) b _ (Heap.objs_set_same _ _ _))) ?_
       rintro _ _ ⟨rfl, f3, hf3, rfl⟩
       rw [Heap.set_set]
       rw [hW.2.2, if_neg hkt]
       refine AList.p rfl (zC (.tmp _ _ rfl)) ?_
       refine AList.p rfl (zD (.tmp _ _ rfl) rfl) ?_
       refine AList.p rfl (zD (.tmp _ _ rfl) rfl) ?_
       refine AList.s rfl (zT Tryz.zeroValue32 (zr32)) ?_
       rintro _ _ ⟨b18, hb18, rfl, hH⟩
       obtain rfl := hH.symm
       refine AList.s0 (zH Tryz.sizeOf32 (.tmp _ _ rfl) (.tmp _ _ rfl) rfl rfl (.inr ⟨_, rfl⟩) (by first | assumption | exact (by assumption : Heap.le _ _).objs _ _ (by assumption) | exact Heap.objs_set_same _ _ _ | exact (Heap.objs_set_ne _ _ (by assumption)).trans (Heap.objs_set_same _ _ _) | exact (Heap.objs_set_ne _ _ (by assumption)).trans ((Heap.objs_set_ne _ _ (by assumption)).trans (Heap.objs_set_same _ _ _)) | exact (Heap.objs_set_ne _ _ (by assumption)).trans (by assumption)) (Nat.le_of_ble_eq_true rfl)) ?_
       rintro _ _ ⟨rfl, hH⟩
       obtain rfl := hH.symm
       try first | rw [Heap.set_set] | rw [Heap.set_under (by assumption)]
       refine AList.p rfl (zB (.tmp _ _ rfl)) ?_
       refine AList.nil ?_
       refine Next.go ?_
       refine AWP.frz (t := 18) rfl (by first | exact hb18 | exact Heap.fresh_set hb18 _) ?_
       refine AWP.seq ?_
       -- region 17
       refine AWP.region ?_
       refine AList.p rfl (zC (.tmp _ _ rfl)) ?_
       refine AList.p rfl (yA (.tmp _ _ rfl) zE) ?_
       refine AList.p rfl (zC (.tmp _ _ rfl)) ?_
       first | (refine AList.gp rfl rfl rfl (by first | rfl | assumption) (zG Tryz.underlying32 rfl Tryz.sizeOf30 (.tmp _ _ rfl)) ?_) | (refine AList.gp rfl rfl rfl (by first | rfl | assumption) (yB Tryz.underlying32 rfl Tryz.sizeOf30 (.tmp _ _ rfl)) ?_)
       first | (refine AList.gp rfl rfl rfl (by first | rfl | assumption) (zF Tryz.isAgg30 (.tmp _ _ rfl)) ?_) | (refine AList.gs rfl rfl rfl (by first | rfl | assumption) (qB Tryz.isAgg30 (.tmp _ _ rfl) (by first | assumption | exact (by assumption : Heap.le _ _).objs _ _ (by assumption) | exact Heap.objs_set_same _ _ _ | exact (Heap.objs_set_ne _ _ (by assumption)).trans (Heap.objs_set_same _ _ _) | exact (Heap.objs_set_ne _ _ (by assumption)).trans ((Heap.objs_set_ne _ _ (by assumption)).trans (Heap.objs_set_same _ _ _)) | exact (Heap.objs_set_ne _ _ (by assumption)).trans (by assumption)) (by omega)) ?_; rintro _ _ ⟨rfl, hH⟩; obtain rfl := hH.symm) | (refine AList.gs rfl rfl rfl (by first | rfl | assumption) (yO Tryz.isAgg30 (.tmp _ _ rfl) (by first | assumption | exact (by assumption : Heap.le _ _).objs _ _ (by assumption) | exact Heap.objs_set_same _ _ _ | exact (Heap.objs_set_ne _ _ (by assumption)).trans (Heap.objs_set_same _ _ _) | exact (Heap.objs_set_ne _ _ (by assumption)).trans ((Heap.objs_set_ne _ _ (by assumption)).trans (Heap.objs_set_same _ _ _)) | exact (Heap.objs_set_ne _ _ (by assumption)).trans (by assumption)) rfl) ?_; rintro _ _ ⟨rfl, hH⟩; obtain rfl := hH.symm)
       refine AList.gp rfl rfl rfl (by first | rfl | assumption) (zC (.tmp _ _ rfl)) ?_
       refine AList.gp rfl rfl rfl (by first | rfl | assumption) (yA (.tmp _ _ rfl) (.tmp _ _ rfl)) ?_
       refine AList.p rfl (zN (.tmp _ _ rfl) (by first | rfl | assumption) (.tmp _ _ rfl)) ?_
       refine AList.p rfl (zC (.tmp _ _ rfl)) ?_
       refine AList.gp rfl rfl rfl (by first | rfl | assumption) (zC (.tmp _ _ rfl)) ?_
       refine AList.gp rfl rfl rfl (by first | rfl | assumption) (yA (.tmp _ _ rfl) zE) ?_
       refine AList.p rfl (zN (.tmp _ _ rfl) (by first | rfl | assumption) (.tmp _ _ rfl)) ?_
       refine AList.p rfl (zC (.tmp _ _ rfl)) ?_
       first | (refine AList.gp rfl rfl rfl (by first | rfl | assumption) (zG Tryz.underlying32 rfl Tryz.sizeOf30 (.tmp _ _ rfl)) ?_) | (refine AList.gp rfl rfl rfl (by first | rfl | assumption) (yB Tryz.underlying32 rfl Tryz.sizeOf30 (.tmp _ _ rfl)) ?_)
       first | (refine AList.gp rfl rfl rfl (by first | rfl | assumption) (zF Tryz.isAgg30 (.tmp _ _ rfl)) ?_) | (refine AList.gs rfl rfl rfl (by first | rfl | assumption) (qB Tryz.isAgg30 (.tmp _ _ rfl) (by first | assumption | exact (by assumption : Heap.le _ _).objs _ _ (by assumption) | exact Heap.objs_set_same _ _ _ | exact (Heap.objs_set_ne _ _ (by assumption)).trans (Heap.objs_set_same _ _ _) | exact (Heap.objs_set_ne _ _ (by assumption)).trans ((Heap.objs_set_ne _ _ (by assumption)).trans (Heap.objs_set_same _ _ _)) | exact (Heap.objs_set_ne _ _ (by assumption)).trans (by assumption)) (by omega)) ?_; rintro _ _ ⟨rfl, hH⟩; obtain rfl := hH.symm) | (refine AList.gs rfl rfl rfl (by first | rfl | assumption) (yO Tryz.isAgg30 (.tmp _ _ rfl) (by first | assumption | exact (by assumption : Heap.le _ _).objs _ _ (by assumption) | exact Heap.objs_set_same _ _ _ | exact (Heap.objs_set_ne _ _ (by assumption)).trans (Heap.objs_set_same _ _ _) | exact (Heap.objs_set_ne _ _ (by assumption)).trans ((Heap.objs_set_ne _ _ (by assumption)).trans (Heap.objs_set_same _ _ _)) | exact (Heap.objs_set_ne _ _ (by assumption)).trans (by assumption)) rfl) ?_; rintro _ _ ⟨rfl, hH⟩; obtain rfl := hH.symm)
       refine AList.gp rfl rfl rfl (by first | rfl | assumption) (zC (.tmp _ _ rfl)) ?_
       refine AList.gp rfl rfl rfl (by first | rfl | assumption) (aaC (.tmp _ _ rfl) (zJ 9223372036854775808) (by first | assumption | omega)) ?_
       refine AList.gp rfl rfl rfl (by first | rfl | assumption) (yA (.tmp _ _ rfl) (.tmp _ _ rfl)) ?_
       refine AList.p rfl (zN (.tmp _ _ rfl) (by first | rfl | assumption) (.tmp _ _ rfl)) ?_
       refine AList.p rfl (zC (.tmp _ _ rfl)) ?_
       first | (refine AList.gp rfl rfl rfl (by first | rfl | assumption) (zG Tryz.underlying32 rfl Tryz.sizeOf3 (.tmp _ _ rfl)) ?_) | (refine AList.gp rfl rfl rfl (by first | rfl | assumption) (yB Tryz.underlying32 rfl Tryz.sizeOf3 (.tmp _ _ rfl)) ?_)
       first | (refine AList.gp rfl rfl rfl (by first | rfl | assumption) (zF Tryz.isAgg3 (.tmp _ _ rfl)) ?_) | (refine AList.gs rfl rfl rfl (by first | rfl | assumption) (yO Tryz.isAgg3 (.tmp _ _ rfl) (by first | assumption | exact (by assumption : Heap.le _ _).objs _ _ (by assumption) | exact Heap.objs_set_same _ _ _ | exact (Heap.objs_set_ne _ _ (by assumption)).trans (Heap.objs_set_same _ _ _) | exact (Heap.objs_set_ne _ _ (by assumption)).trans ((Heap.objs_set_ne _ _ (by assumption)).trans (Heap.objs_set_same _ _ _)) | exact (Heap.objs_set_ne _ _ (by assumption)).trans (by assumption)) rfl) ?_; rintro _ _ ⟨rfl, hH⟩; obtain rfl := hH.symm)
       refine AList.gp rfl rfl rfl (by first | rfl | assumption) (yA (.tmp _ _ rfl) zE) ?_
       refine AList.p rfl (zN (.tmp _ _ rfl) (by first | rfl | assumption) (.tmp _ _ rfl)) ?_
       refine AList.p rfl (zC (.tmp _ _ rfl)) ?_
       refine AList.gp rfl rfl rfl (by first | rfl | assumption) (zC (.tmp _ _ rfl)) ?_
       refine AList.gp rfl rfl rfl (by first | rfl | assumption) (yA (.tmp _ _ rfl) zE) ?_
       refine AList.p rfl (zN (.tmp _ _ rfl) (by first | rfl | assumption) (.tmp _ _ rfl)) ?_
       refine AList.p rfl (zC (.tmp _ _ rfl)) ?_
       first | (refine AList.gp rfl rfl rfl (by first | rfl | assumption) (zG Tryz.underlying32 rfl Tryz.sizeOf30 (.tmp _ _ rfl)) ?_) | (refine AList.gp rfl rfl rfl (by first | rfl | assumption) (yB Tryz.underlying32 rfl Tryz.sizeOf30 (.tmp _ _ rfl)) ?_)
       first | (refine AList.gp rfl rfl rfl (by first | rfl | assumption) (zF Tryz.isAgg30 (.tmp _ _ rfl)) ?_) | (refine AList.gs rfl rfl rfl (by first | rfl | assumption) (qB Tryz.isAgg30 (.tmp _ _ rfl) (by first | assumption | exact (by assumption : Heap.le _ _).objs _ _ (by assumption) | exact Heap.objs_set_same _ _ _ | exact (Heap.objs_set_ne _ _ (by assumption)).trans (Heap.objs_set_same _ _ _) | exact (Heap.objs_set_ne _ _ (by assumption)).trans ((Heap.objs_set_ne _ _ (by assumption)).trans (Heap.objs_set_same _ _ _)) | exact (Heap.objs_set_ne _ _ (by assumption)).trans (by assumption)) (by omega)) ?_; rintro _ _ ⟨rfl, hH⟩; obtain rfl := hH.symm) | (refine AList.gs rfl rfl rfl (by first | rfl | assumption) (yO Tryz.isAgg30 (.tmp _ _ rfl) (by first | assumption | exact (by assumption : Heap.le _ _).objs _ _ (by assumption) | exact Heap.objs_set_same _ _ _ | exact (Heap.objs_set_ne _ _ (by assumption)).trans (Heap.objs_set_same _ _ _) | exact (Heap.objs_set_ne _ _ (by assumption)).trans ((Heap.objs_set_ne _ _ (by assumption)).trans (Heap.objs_set_same _ _ _)) | exact (Heap.objs_set_ne _ _ (by assumption)).trans (by assumption)) rfl) ?_; rintro _ _ ⟨rfl, hH⟩; obtain rfl := hH.symm)
       refine AList.gp rfl rfl rfl (by first | rfl | assumption) (zC (.tmp _ _ rfl)) ?_
       refine AList.gp rfl rfl rfl (by first | rfl | assumption) (aaC (.tmp _ _ rfl) (zJ 9223372036854775808) (by first | assumption | omega)) ?_
       refine AList.gp rfl rfl rfl (by first | rfl | assumption) (yL (.tmp _ _ rfl) (zJ 9223372036854775808) (by first | assumption | omega)) ?_
       refine AList.gp rfl rfl rfl (by first | rfl | assumption) (yA (.tmp _ _ rfl) (.tmp _ _ rfl)) ?_
       refine AList.p rfl (zN (.tmp _ _ rfl) (by first | rfl | assumption) (.tmp _ _ rfl)) ?_
       refine AList.p rfl (zB (.tmp _ _ rfl)) ?_
       refine AList.nil ?_
       refine Next.go ?_
       refine AWP.ret ?_
       -- ret 3
       refine Ret.go (.cons (.tmp _ _ rfl) .nil) H (Heap.le_set hb0 _) ?_
       refine ⟨?_, rfl⟩
       show AV.bool (decide _) = _
       rw [hq3]
      ·refine XTree.s rfl rfl (zT Tryz.zeroValue32 (zr32)) ?_
       rintro _ _ ⟨b16, hb16, rfl, hH⟩
       obtain rfl := hH.symm
       refine ATree.s rfl rfl (zP Tryz.call11 (.cons (.tmp _ _ rfl) (.cons (.tmp _ _ rfl) .nil)) (aaH l hk hgr f1 hf1 (afG l (aaN l g false ds ((ds.length : Int) + e))) (by have := @arF l hk (aaN l g false ds ((ds.length : Int) + e)); omega) b _ (by first | exact Heap.objs_set_same _ _ _ | exact (Heap.objs_set_ne _ _ (Heap.fresh_ne hb16)).trans (Heap.objs_set_same _ _ _)))) ?_
       rintro _ _ ⟨rfl, f2, hf2, rfl⟩
       first | rw [Heap.set_under (Heap.fresh_ne hb16)] | rw [Heap.set_set]
       rw [hW.2.1, if_neg hkf]
       refine ATree.p rfl rfl (zC (.tmp _ _ rfl)) ?_
       refine ATree.p rfl rfl (zD (.tmp _ _ rfl) rfl) ?_
       refine ATree.p rfl rfl (zD (.tmp _ _ rfl) rfl) ?_
       refine ATree.s0 rfl (zH Tryz.sizeOf32 (.tmp _ _ rfl) (.tmp _ _ rfl) rfl rfl (.inr ⟨_, rfl⟩) (by first | assumption | exact (by assumption : Heap.le _ _).objs _ _ (by assumption) | exact Heap.objs_set_same _ _ _ | exact (Heap.objs_set_ne _ _ (by assumption)).trans (Heap.objs_set_same _ _ _) | exact (Heap.objs_set_ne _ _ (by assumption)).trans ((Heap.objs_set_ne _ _ (by assumption)).trans (Heap.objs_set_same _ _ _)) | exact (Heap.objs_set_ne _ _ (by assumption)).trans (by assumption)) (Nat.le_of_ble_eq_true rfl)) ?_
       rintro _ _ ⟨rfl, hH⟩
       obtain rfl := hH.symm
       try first | rw [Heap.set_set] | rw [Heap.set_under (by assumption)]
       refine ATree.p rfl rfl (zB (.tmp _ _ rfl)) ?_
       refine ATree.nil ?_
       refine Next.go ?_
       refine AWP.frz (t := 16) rfl (by first | exact hb16 | exact Heap.fresh_set hb16 _) ?_
       refine AWP.seq ?_
       -- region 16
       refine AWP.region ?_
       refine AList.p rfl (zC (.tmp _ _ rfl)) ?_
       first | (refine AList.p rfl (zU Tryz.isAgg25 Tryz.sizeOf25 (.tmp _ _ rfl) (Nat.le_of_ble_eq_true rfl)) ?_) | (refine AList.s rfl (yG Tryz.isAgg25 Tryz.sizeOf25 (.tmp _ _ rfl) (by first | assumption | exact (by assumption : Heap.le _ _).objs _ _ (by assumption) | exact Heap.objs_set_same _ _ _ | exact (Heap.objs_set_ne _ _ (by assumption)).trans (Heap.objs_set_same _ _ _) | exact (Heap.objs_set_ne _ _ (by assumption)).trans ((Heap.objs_set_ne _ _ (by assumption)).trans (Heap.objs_set_same _ _ _)) | exact (Heap.objs_set_ne _ _ (by assumption)).trans (by assumption)) (Nat.le_of_ble_eq_true rfl)) ?_; rintro _ _ ⟨rfl, hH⟩; obtain rfl := hH.symm)
       first | (refine AList.p rfl (zU Tryz.isAgg48 Tryz.sizeOf48 (.tmp _ _ rfl) (Nat.le_of_ble_eq_true rfl)) ?_) | (refine AList.s rfl (yG Tryz.isAgg48 Tryz.sizeOf48 (.tmp _ _ rfl) (by first | assumption | exact (by assumption : Heap.le _ _).objs _ _ (by assumption) | exact Heap.objs_set_same _ _ _ | exact (Heap.objs_set_ne _ _ (by assumption)).trans (Heap.objs_set_same _ _ _) | exact (Heap.objs_set_ne _ _ (by assumption)).trans ((Heap.objs_set_ne _ _ (by assumption)).trans (Heap.objs_set_same _ _ _)) | exact (Heap.objs_set_ne _ _ (by assumption)).trans (by assumption)) (Nat.le_of_ble_eq_true rfl)) ?_; rintro _ _ ⟨rfl, hH⟩; obtain rfl := hH.symm)
       refine AList.p rfl (zC (.tmp _ _ rfl)) ?_
       refine AList.s rfl (zP Tryz.call20 (.cons (.tmp _ _ rfl) (.cons (.tmp _ _ rfl) (.cons (.tmp _ _ rfl) .nil))) (adY l hk g false ds e hr _)) ?_
       rintro _ _ ⟨rfl, hH⟩
       obtain rfl := hH.symm
       refine AList.p rfl (yK (zS rfl) (.tmp _ _ rfl) (by simp only [zX, List.length_append, List.length_cons, List.length_nil] at *; omega)) ?_
       refine AList.p rfl (yK (.tmp _ _ rfl) (zS rfl) (by simp only [zX, List.length_append, List.length_cons, List.length_nil] at *; omega)) ?_
       refine AList.s rfl (zP Tryz.call11 (.cons (.tmp _ _ rfl) (.cons (.tmp _ _ rfl) .nil)) (aaH l hk hgr f2 hf2 ([40] ++ (aaN l g false ds ((ds.length : Int) + e)) ++ [41]) (by simp only [List.length_append, List.length_cons, List.length_nil]; omega) b _ (Heap.objs_set_same _ _ _))) ?_
       rintro _ _ ⟨rfl, f3, hf3, rfl⟩
       rw [Heap.set_set]
       rw [hW.2.2, if_neg hkt]
       refine AList.p rfl (zC (.tmp _ _ rfl)) ?_
       refine AList.p rfl (zD (.tmp _ _ rfl) rfl) ?_
       refine AList.p rfl (zD (.tmp _ _ rfl) rfl) ?_
       refine AList.s rfl (zT Tryz.zeroValue32 (zr32)) ?_
       rintro _ _ ⟨b18, hb18, rfl, hH⟩
       obtain rfl := hH.symm
       refine AList.s0 (zH Tryz.sizeOf32 (.tmp _ _ rfl) (.tmp _ _ rfl) rfl rfl (.inr ⟨_, rfl⟩) (by first | assumption | exact (by assumption : Heap.le _ _).objs _ _ (by assumption) | exact Heap.objs_set_same _ _ _ | exact (Heap.objs_set_ne _ _ (by assumption)).trans (Heap.objs_set_same _ _ _) | exact (Heap.objs_set_ne _ _ (by assumption)).trans ((Heap.objs_set_ne _ _ (by assumption)).trans (Heap.objs_set_same _ _ _)) | exact (Heap.objs_set_ne _ _ (by assumption)).trans (by assumption)) (Nat.le_of_ble_eq_true rfl)) ?_
       rintro _ _ ⟨rfl, hH⟩
       obtain rfl := hH.symm
       try first | rw [Heap.set_set] | rw [Heap.set_under (by assumption)]
       refine AList.p rfl (zB (.tmp _ _ rfl)) ?_
       refine AList.nil ?_
       refine Next.go ?_
       refine AWP.frz (t := 18) rfl (by first | exact hb18 | exact Heap.fresh_set hb18 _) ?_
       refine AWP.seq ?_
       -- region 17
       refine AWP.region ?_
       refine AList.p rfl (zC (.tmp _ _ rfl)) ?_
       refine AList.p rfl (yA (.tmp _ _ rfl) zE) ?_
       refine AList.p rfl (zC (.tmp _ _ rfl)) ?_
       first | (refine AList.gp rfl rfl rfl (by first | rfl | assumption) (zG Tryz.underlying32 rfl Tryz.sizeOf30 (.tmp _ _ rfl)) ?_) | (refine AList.gp rfl rfl rfl (by first | rfl | assumption) (yB Tryz.underlying32 rfl Tryz.sizeOf30 (.tmp _ _ rfl)) ?_)
       first | (refine AList.gp rfl rfl rfl (by first | rfl | assumption) (zF Tryz.isAgg30 (.tmp _ _ rfl)) ?_) | (refine AList.gs rfl rfl rfl (by first | rfl | assumption) (qB Tryz.isAgg30 (.tmp _ _ rfl) (by first | assumption | exact (by assumption : Heap.le _ _).objs _ _ (by assumption) | exact Heap.objs_set_same _ _ _ | exact (Heap.objs_set_ne _ _ (by assumption)).trans (Heap.objs_set_same _ _ _) | exact (Heap.objs_set_ne _ _ (by assumption)).trans ((Heap.objs_set_ne _ _ (by assumption)).trans (Heap.objs_set_same _ _ _)) | exact (Heap.objs_set_ne _ _ (by assumption)).trans (by assumption)) (by omega)) ?_; rintro _ _ ⟨rfl, hH⟩; obtain rfl := hH.symm) | (refine AList.gs rfl rfl rfl (by first | rfl | assumption) (yO Tryz.isAgg30 (.tmp _ _ rfl) (by first | assumption | exact (by assumption : Heap.le _ _).objs _ _ (by assumption) | exact Heap.objs_set_same _ _ _ | exact (Heap.objs_set_ne _ _ (by assumption)).trans (Heap.objs_set_same _ _ _) | exact (Heap.objs_set_ne _ _ (by assumption)).trans ((Heap.objs_set_ne _ _ (by assumption)).trans (Heap.objs_set_same _ _ _)) | exact (Heap.objs_set_ne _ _ (by assumption)).trans (by assumption)) rfl) ?_; rintro _ _ ⟨rfl, hH⟩; obtain rfl := hH.symm)
       refine AList.gp rfl rfl rfl (by first | rfl | assumption) (zC (.tmp _ _ rfl)) ?_
       refine AList.gp rfl rfl rfl (by first | rfl | assumption) (yA (.tmp _ _ rfl) (.tmp _ _ rfl)) ?_
       refine AList.p rfl (zN (.tmp _ _ rfl) (by first | rfl | assumption) (.tmp _ _ rfl)) ?_
       refine AList.p rfl (zC (.tmp _ _ rfl)) ?_
       refine AList.gp rfl rfl rfl (by first | rfl | assumption) (zC (.tmp _ _ rfl)) ?_
       refine AList.gp rfl rfl rfl (by first | rfl | assumption) (yA (.tmp _ _ rfl) zE) ?_
       refine AList.p rfl (zN (.tmp _ _ rfl) (by first | rfl | assumption) (.tmp _ _ rfl)) ?_
       refine AList.p rfl (zC (.tmp _ _ rfl)) ?_
       first | (refine AList.gp rfl rfl rfl (by first | rfl | assumption) (zG Tryz.underlying32 rfl Tryz.sizeOf30 (.tmp _ _ rfl)) ?_) | (refine AList.gp rfl rfl rfl (by first | rfl | assumption) (yB Tryz.underlying32 rfl Tryz.sizeOf30 (.tmp _ _ rfl)) ?_)
       first | (refine AList.gp rfl rfl rfl (by first | rfl | assumption) (zF Tryz.isAgg30 (.tmp _ _ rfl)) ?_) | (refine AList.gs rfl rfl rfl (by first | rfl | assumption) (qB Tryz.isAgg30 (.tmp _ _ rfl) (by first | assumption | exact (by assumption : Heap.le _ _).objs _ _ (by assumption) | exact Heap.objs_set_same _ _ _ | exact (Heap.objs_set_ne _ _ (by assumption)).trans (Heap.objs_set_same _ _ _) | exact (Heap.objs_set_ne _ _ (by assumption)).trans ((Heap.objs_set_ne _ _ (by assumption)).trans (Heap.objs_set_same _ _ _)) | exact (Heap.objs_set_ne _ _ (by assumption)).trans (by assumption)) (by omega)) ?_; rintro _ _ ⟨rfl, hH⟩; obtain rfl := hH.symm) | (refine AList.gs rfl rfl rfl (by first | rfl | assumption) (yO Tryz.isAgg30 (.tmp _ _ rfl) (by first | assumption | exact (by assumption : Heap.le _ _).objs _ _ (by assumption) | exact Heap.objs_set_same _ _ _ | exact (Heap.objs_set_ne _ _ (by assumption)).trans (Heap.objs_set_same _ _ _) | exact (Heap.objs_set_ne _ _ (by assumption)).trans ((Heap.objs_set_ne _ _ (by assumption)).trans (Heap.objs_set_same _ _ _)) | exact (Heap.objs_set_ne _ _ (by assumption)).trans (by assumption)) rfl) ?_; rintro _ _ ⟨rfl, hH⟩; obtain rfl := hH.symm)
       refine AList.gp rfl rfl rfl (by first | rfl | assumption) (zC (.tmp _ _ rfl)) ?_
       refine AList.gp rfl rfl rfl (by first | rfl | assumption) (aaC (.tmp _ _ rfl) (zJ 9223372036854775808) (by first | assumption | omega)) ?_
       refine AList.gp rfl rfl rfl (by first | rfl | assumption) (yA (.tmp _ _ rfl) (.tmp _ _ rfl)) ?_
       refine AList.p rfl (zN (.tmp _ _ rfl) (by first | rfl | assumption) (.tmp _ _ rfl)) ?_
       refine AList.p rfl (zC (.tmp _ _ rfl)) ?_
       first | (refine AList.gp rfl rfl rfl (by first | rfl | assumption) (zG Tryz.underlying32 rfl Tryz.sizeOf3 (.tmp _ _ rfl)) ?_) | (refine AList.gp rfl rfl rfl (by first | rfl | assumption) (yB Tryz.underlying32 rfl Tryz.sizeOf3 (.tmp _ _ rfl)) ?_)
       first | (refine AList.gp rfl rfl rfl (by first | rfl | assumption) (zF Tryz.isAgg3 (.tmp _ _ rfl)) ?_) | (refine AList.gs rfl rfl rfl (by first | rfl | assumption) (yO Tryz.isAgg3 (.tmp _ _ rfl) (by first | assumption | exact (by assumption : Heap.le _ _).objs _ _ (by assumption) | exact Heap.objs_set_same _ _ _ | exact (Heap.objs_set_ne _ _ (by assumption)).trans (Heap.objs_set_same _ _ _) | exact (Heap.objs_set_ne _ _ (by assumption)).trans ((Heap.objs_set_ne _ _ (by assumption)).trans (Heap.objs_set_same _ _ _)) | exact (Heap.objs_set_ne _ _ (by assumption)).trans (by assumption)) rfl) ?_; rintro _ _ ⟨rfl, hH⟩; obtain rfl := hH.symm)
       refine AList.gp rfl rfl rfl (by first | rfl | assumption) (yA (.tmp _ _ rfl) zE) ?_
       refine AList.p rfl (zN (.tmp _ _ rfl) (by first | rfl | assumption) (.tmp _ _ rfl)) ?_
       refine AList.p rfl (zC (.tmp _ _ rfl)) ?_
       refine AList.gp rfl rfl rfl (by first | rfl | assumption) (zC (.tmp _ _ rfl)) ?_
       refine AList.gp rfl rfl rfl (by first | rfl | assumption) (yA (.tmp _ _ rfl) zE) ?_
       refine AList.p rfl (zN (.tmp _ _ rfl) (by first | rfl | assumption) (.tmp _ _ rfl)) ?_
       refine AList.p rfl (zC (.tmp _ _ rfl)) ?_
       first | (refine AList.gp rfl rfl rfl (by first | rfl | assumption) (zG Tryz.underlying32 rfl Tryz.sizeOf30 (.tmp _ _ rfl)) ?_) | (refine AList.gp rfl rfl rfl (by first | rfl | assumption) (yB Tryz.underlying32 rfl Tryz.sizeOf30 (.tmp _ _ rfl)) ?_)
       first | (refine AList.gp rfl rfl rfl (by first | rfl | assumption) (zF Tryz.isAgg30 (.tmp _ _ rfl)) ?_) | (refine AList.gs rfl rfl rfl (by first | rfl | assumption) (qB Tryz.isAgg30 (.tmp _ _ rfl) (by first | assumption | exact (by assumption : Heap.le _ _).objs _ _ (by assumption) | exact Heap.objs_set_same _ _ _ | exact (Heap.objs_set_ne _ _ (by assumption)).trans (Heap.objs_set_same _ _ _) | exact (Heap.objs_set_ne _ _ (by assumption)).trans ((Heap.objs_set_ne _ _ (by assumption)).trans (Heap.objs_set_same _ _ _)) | exact (Heap.objs_set_ne _ _ (by assumption)).trans (by assumption)) (by omega)) ?_; rintro _ _ ⟨rfl, hH⟩; obtain rfl := hH.symm) | (refine AList.gs rfl rfl rfl (by first | rfl | assumption) (yO Tryz.isAgg30 (.tmp _ _ rfl) (by first | assumption | exact (by assumption : Heap.le _ _).objs _ _ (by assumption) | exact Heap.objs_set_same _ _ _ | exact (Heap.objs_set_ne _ _ (by assumption)).trans (Heap.objs_set_same _ _ _) | exact (Heap.objs_set_ne _ _ (by assumption)).trans ((Heap.objs_set_ne _ _ (by assumption)).trans (Heap.objs_set_same _ _ _)) | exact (Heap.objs_set_ne _ _ (by assumption)).trans (by assumption)) rfl) ?_; rintro _ _ ⟨rfl, hH⟩; obtain rfl := hH.symm)
       refine AList.gp rfl rfl rfl (by first | rfl | assumption) (zC (.tmp _ _ rfl)) ?_
       refine AList.gp rfl rfl rfl (by first | rfl | assumption) (aaC (.tmp _ _ rfl) (zJ 9223372036854775808) (by first | assumption | omega)) ?_
       refine AList.gp rfl rfl rfl (by first | rfl | assumption) (yL (.tmp _ _ rfl) (zJ 9223372036854775808) (by first | assumption | omega)) ?_
       refine AList.gp rfl rfl rfl (by first | rfl | assumption) (yA (.tmp _ _ rfl) (.tmp _ _ rfl)) ?_
       refine AList.p rfl (zN (.tmp _ _ rfl) (by first | rfl | assumption) (.tmp _ _ rfl)) ?_
       refine AList.p rfl (zB (.tmp _ _ rfl)) ?_
       refine AList.nil ?_
       refine Next.go ?_
       refine AWP.ret ?_
       -- ret 4
       refine Ret.go (.cons (.tmp _ _ rfl) .nil) H (Heap.le_set hb0 _) ?_
       refine ⟨?_, rfl⟩
       show AV.bool (decide _) = _
       rw [hq3]
end Go.Proofs.YtfkeflcdadlmdaaGreatDoor
