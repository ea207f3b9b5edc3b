import Derived.Test.YtfkeflcdadlmdaaGreatDoorU3
import Derived.Test.YtfkeflcdadlmdaaGreatDoorB1
import Derived.Test.YtfkeflcdadlmdaaGreatDoorSsk
import Derived.Test.YtfkeflcdadlmdaaGreatDoorU1
import Derived.Test.YtfkeflcdadlmdaaGreatDoorLgk
import Derived.Lib.CountLaws
namespace Go.Proofs.YtfkeflcdadlmdaaGreatDoor
open Go Go.RowKit Go.Lib

theorem zX {c : UInt8} {r s : List UInt8} (h : s.head? ≠ some c) : hasPrefix s (c :: r) = false := by
 unfold hasPrefix
 cases s with
 | nil => rfl
 | cons b t =>
  have : c ≠ b := fun e => h (by rw [e]; rfl)
  simp [List.isPrefixOf, this]
theorem alC {c : UInt8} {r : List UInt8} : ∀ {s : List UInt8}, c ∉ s → index s (c :: r) = -1
 | [], _ => rfl
 | b :: t, h => by
  have h1 := zX (c := c) (r := r) (s := b :: t) (fun e => h (by injection e with e; rw [e]; simp))
  have h2 := alC (c := c) (r := r) (s := t) (fun q => h (by simp [q]))
  unfold hasPrefix at h1
  unfold index
  rw [h1, h2]; rfl
theorem alD {c : UInt8} {r z : List UInt8} : ∀ {w : List UInt8}, c ∉ w → index (w ++ (c :: r) ++ z) (c :: r) = (w.length : Int)
 | [], _ => by
  show index (c :: (r ++ z)) (c :: r) = 0
  unfold index
  rw [if_pos (by simp [List.isPrefixOf])]
 | b :: t, h => by
  have h1 := zX (c := c) (r := r) (s := b :: (t ++ (c :: r) ++ z)) (fun e => h (by injection e with e; rw [e]; simp))
  have h2 := alD (c := c) (r := r) (z := z) (w := t) (fun q => h (by simp [q]))
  unfold hasPrefix at h1
  show index (b :: (t ++ (c :: r) ++ z)) (c :: r) = _
  unfold index
  rw [h1, h2, if_neg (by decide)]
  rw [if_neg (by rw [beq_iff_eq]; omega), List.length_cons]; omega
theorem bcP {old new s : List UInt8} (h : index s old = -1) : ∀ k, replaceK old new k s = s
 | 0 => rfl
 | k + 1 => by rw [replaceK, if_pos (by rw [h]; rfl)]
theorem amH {old new s : List UInt8} (h : index s old = -1) : replaceAll s old new = s := by
 unfold replaceAll replace
 split
 ·rfl
 ·exact bcP h _
theorem cut_none {c : UInt8} {r s : List UInt8} (h : c ∉ s) : cut s (c :: r) = (s, [], false) := by
 unfold cut
 rw [alC h, if_neg (by decide)]
theorem cut_some {c : UInt8} {r w z : List UInt8} (h : c ∉ w) : cut (w ++ (c :: r) ++ z) (c :: r) = (w, z, true) := by
 unfold cut
 rw [alD h, if_pos (by omega)]
 have e1 : (w ++ (c :: r) ++ z).take w.length = w := by rw [List.append_assoc, List.take_left]
 have e2 : (w ++ (c :: r) ++ z).drop (w.length + (c :: r).length) = z := by rw [show w.length + (c :: r).length = (w ++ (c :: r)).length by simp]; exact List.drop_left
 rw [Int.toNat_natCast, e1, e2]
theorem bbA {s : List UInt8} {c : UInt8} (hd : Digs s) (hc : ¬ isD c) : c ∉ s := fun h => hc (hd c h)
theorem bjE {s : List UInt8} (hd : Digs s) : qE adD s.length s = [] := (adP s.length s (Nat.le_refl _)).2 hd
structure Loc.fine (l : Loc) : Prop where
 dc : ∃ c, l.dc = [c] ∧ ¬ isD c ∧ c ≠ 69 ∧ c ≠ 101
 grp : ∃ c r, l.grp = c :: r ∧ ¬ isD c ∧ (∀ d, l.dc = [d] → c ≠ d)
 minus : ∃ c r, l.minus = c :: r ∧ ¬ isD c ∧ c ≠ 43 ∧ c ≠ 40 ∧ (c = 45 → r = []) ∧ ∀ z, zQ (decodeL (l.minus ++ z)).1 = false
 cur : ∃ c r, l.cur = c :: r ∧ ¬ isD c ∧ ¬ isD ((c :: r).getD r.length 0)
 pct : l.pct = [37]
theorem notD {c : UInt8} (h : c.toNat < 48 ∨ 57 < c.toNat) : ¬ isD c := fun q => by unfold isD at q; omega
theorem minus_sv (z : List UInt8) : zQ (decodeL (([226, 136, 146] : List UInt8) ++ z)).1 = false := by
 have : decodeL (([226, 136, 146] : List UInt8) ++ z) = (8722, 3) := by
  rw [decodeL_N]
  simp only [List.cons_append, List.nil_append, List.getD_cons_zero, List.getD_cons_succ, List.length_cons]
  unfold decodeN
  simp
 rw [this]; decide
theorem minus_hy (z : List UInt8) : zQ (decodeL (([45] : List UInt8) ++ z)).1 = false := by
 have : decodeL (([45] : List UInt8) ++ z) = (45, 1) := by rw [decodeL_N]; exact decodeN_ascii _ _ _ _ _ (show (45 : UInt8).toNat < 128 by decide)
 rw [this]; decide
theorem biE : ∀ l ∈ locs, l.fine := by
 intro l hl
 simp only [locs, List.mem_cons, List.not_mem_nil, or_false] at hl
 rcases hl with rfl | rfl | rfl | rfl | rfl | rfl
 all_goals exact { dc := ⟨_, rfl, notD (by decide), by decide, by decide⟩, grp := ⟨_, _, rfl, notD (by decide), fun d hd => by injection hd with hd; subst hd; decide⟩, minus := ⟨_, _, rfl, notD (by decide), by decide, by decide, by decide, by first | exact minus_hy | exact minus_sv⟩, cur := ⟨_, _, rfl, notD (by decide), notD (by decide)⟩, pct := rfl }
theorem ayM {c : UInt8} (h : isD c) : zQ c.toNat = false := by
 unfold isD at h
 unfold zQ
 simp only [Bool.or_eq_false_iff, beq_eq_false_iff_ne]
 omega
theorem aoR {s : List UInt8} (h : s = [] ∨ zQ (decodeL s).1 = false) (f : Nat) : qE zQ f s = s := by
 cases f with
 | zero => rfl
 | succ f =>
  by_cases h0 : s = []
  ·subst h0; exact aaF _ _
  ·rcases h with h | h
   ·exact absurd h h0
   ·rw [adR _ _ h0, if_neg (by rw [h]; decide)]
theorem anH {p s : List UInt8} (hp : p ≠ []) (h : p.getD (p.length - 1) 0 ≠ s.getD (s.length - 1) 0) : hasSuffix s p = false := by
 unfold hasSuffix
 rw [Bool.eq_false_iff]
 intro q
 rw [List.isSuffixOf_iff_suffix] at q
 obtain ⟨t, rfl⟩ := q
 apply h
 have hl := List.length_pos_iff.2 hp
 rw [List.getD_eq_getElem?_getD, List.getD_eq_getElem?_getD, List.getElem?_append_right (by rw [List.length_append]; omega), List.length_append, show t.length + p.length - 1 - t.length = p.length - 1 by omega]
theorem aaT {a b : List UInt8} (h : b ≠ []) : (a ++ b).getD ((a ++ b).length - 1) 0 = b.getD (b.length - 1) 0 := by
 have hl := List.length_pos_iff.2 h
 rw [List.getD_eq_getElem?_getD, List.getD_eq_getElem?_getD, List.getElem?_append_right (by rw [List.length_append]; omega), List.length_append, show a.length + b.length - 1 - a.length = b.length - 1 by omega]

section
open Go Go.RowKit

end
theorem azP {c : UInt8} {q s : List UInt8} : replaceAll s (c :: q) [] = replaceK (c :: q) [] (count s (c :: q)) s := by
 unfold replaceAll replace
 rw [if_neg (by simp)]
 unfold replaceNum
 rw [if_pos (.inl (by decide))]
theorem aqY {c : UInt8} {q a z : List UInt8} (ha : c ∉ a) : replaceAll (a ++ (c :: q) ++ z) (c :: q) [] = a ++ replaceAll z (c :: q) [] := by
 have hi := alD (c := c) (r := q) (z := z) ha
 have hd : (a ++ (c :: q) ++ z).drop (a.length + (c :: q).length) = z := by rw [show a.length + (c :: q).length = (a ++ (c :: q)).length by simp]; exact List.drop_left
 have ht : (a ++ (c :: q) ++ z).take a.length = a := by rw [List.append_assoc, List.take_left]
 rw [azP, azP]
 have hc : count (a ++ (c :: q) ++ z) (c :: q) = count z (c :: q) + 1 := by
  unfold count
  rw [countFrom, if_neg (by rw [hi, beq_iff_eq]; omega), hi, Int.toNat_natCast, hd, Nat.add_comm 1]
  congr 1
  exact countFrom_fuel (by simp) _ z (by simp only [List.length_append, List.length_cons]; omega) _ (by omega)
 rw [hc, replaceK_hit _ _ _ _ _ hi, ht, hd, List.append_nil]
theorem azM {c : UInt8} {q : List UInt8} : replaceAll [] (c :: q) [] = [] := amH rfl
theorem atH {c : UInt8} {q a s : List UInt8} (ha : c ∉ a) (hs : s = [] ∨ ∃ z, s = (c :: q) ++ z) : replaceAll (a ++ s) (c :: q) [] = a ++ replaceAll s (c :: q) [] := by
 rcases hs with rfl | ⟨z, rfl⟩
 ·rw [List.append_nil, azM, List.append_nil]; exact amH (alC ha)
 ·have h2 := aqY (c := c) (q := q) (a := []) (z := z) (by simp)
  rw [List.nil_append, List.nil_append] at h2
  rw [← List.append_assoc, aqY ha, h2]
def Loc.grpOk (l : Loc) : Prop := ∀ x ∈ l.grp, x ≠ 69 ∧ x ≠ 101 ∧ l.dc ≠ [x]
theorem bdR : ∀ l ∈ locs, l.grpOk := by
 intro l hl
 simp only [locs, List.mem_cons, List.not_mem_nil, or_false] at hl
 rcases hl with rfl | rfl | rfl | rfl | rfl | rfl <;> (unfold Loc.grpOk; decide)
structure Loc.moneyOk (l : Loc) : Prop where
 ne : l.cur ≠ []
 left : ∀ z, zQ (decodeL (l.cur ++ z)).1 = false
 right : ∀ z, zQ (decodeLastL (z ++ l.cur)).1 = false
 signs : ∀ z, hasPrefix (l.cur ++ z) [40] = false ∧ hasPrefix (l.cur ++ z) [43] = false ∧ hasPrefix (l.cur ++ z) [45] = false ∧ hasPrefix (l.cur ++ z) l.minus = false
theorem aaH {c : UInt8} (r z : List UInt8) (h : c.toNat < 128) (hb : zQ c.toNat = false) : zQ (decodeL ((c :: r) ++ z)).1 = false := by
 rw [show decodeL ((c :: r) ++ z) = (c.toNat, 1) by rw [decodeL_N]; exact decodeN_ascii _ _ _ _ _ h]; exact hb
theorem acN {c : UInt8} (r z : List UInt8) (h : c.toNat < 128) (hb : zQ c.toNat = false) : zQ (decodeLastL (z ++ (r ++ [c]))).1 = false := by
 have : decodeLastL (z ++ (r ++ [c])) = (c.toNat, 1) := by
  unfold decodeLastL
  rw [if_neg (by simp), ← List.append_assoc, aaT (by simp), if_pos (by simpa using h)]; rfl
 rw [this]; exact hb
theorem agQ {b : UInt8} (hb : b = 172 ∨ b = 185) (z : List UInt8) : zQ (decodeL (([226, 130, b] : List UInt8) ++ z)).1 = false := by
 rcases hb with rfl | rfl
 ·have : decodeL (([226, 130, 172] : List UInt8) ++ z) = (8364, 3) := by
   rw [decodeL_N]
   simp only [List.cons_append, List.nil_append, List.getD_cons_zero, List.getD_cons_succ, List.length_cons]
   unfold decodeN
   simp
  rw [this]; decide
 ·have : decodeL (([226, 130, 185] : List UInt8) ++ z) = (8377, 3) := by
   rw [decodeL_N]
   simp only [List.cons_append, List.nil_append, List.getD_cons_zero, List.getD_cons_succ, List.length_cons]
   unfold decodeN
   simp
  rw [this]; decide
theorem ahP {b : UInt8} (hb : b = 172 ∨ b = 185) (z : List UInt8) : zQ (decodeLastL (z ++ [226, 130, b])).1 = false := by
 have hst : lastStart (z ++ [226, 130, b]) = z.length := by
  have g2 : (z ++ [226, 130, b]).getD ((z ++ [226, 130, b]).length - 2) 0 = 130 := by simp [List.getD, List.getElem?_append]
  have g3 : (z ++ [226, 130, b]).getD ((z ++ [226, 130, b]).length - 3) 0 = 226 := by simp [List.getD, List.getElem?_append]
  unfold lastStart
  simp only [g2, g3]
  rw [if_neg (by simp), if_neg (by decide), if_neg (by simp), if_pos (by decide)]
  simp
 have e : (z ++ [226, 130, b]).getD ((z ++ [226, 130, b]).length - 1) 0 = b := by simp [List.getD, List.getElem?_append]
 have h0 := agQ hb []
 rw [List.append_nil] at h0
 have hw : (decodeL [226, 130, b]).2 = 3 := by rcases hb with rfl | rfl <;> decide +kernel
 unfold decodeLastL
 rw [if_neg (by simp), e, if_neg (by rcases hb with rfl | rfl <;> decide), hst, List.drop_left]
 simp only
 rw [if_pos (by rw [hw]; simp)]
 exact h0
theorem bdQ : ∀ l ∈ locs, l.moneyOk := by
 intro l hl
 simp only [locs, List.mem_cons, List.not_mem_nil, or_false] at hl
 rcases hl with rfl | rfl | rfl | rfl | rfl | rfl
 ·exact { ne := by simp, left := fun z => aaH [72, 70] z (by decide) (by decide), right := fun z => acN [67, 72] z (by decide) (by decide), signs := fun z => ⟨zX (by simp), zX (by simp), zX (by simp), zX (by simp)⟩ }
 ·exact { ne := by simp, left := agQ (.inl rfl), right := ahP (.inl rfl), signs := fun z => ⟨zX (by simp), zX (by simp), zX (by simp), zX (by simp)⟩ }
 ·exact { ne := by simp, left := fun z => aaH [] z (by decide) (by decide), right := fun z => acN [] z (by decide) (by decide), signs := fun z => ⟨zX (by simp), zX (by simp), zX (by simp), zX (by simp)⟩ }
 ·exact { ne := by simp, left := agQ (.inl rfl), right := ahP (.inl rfl), signs := fun z => ⟨zX (by simp), zX (by simp), zX (by simp), zX (by simp)⟩ }
 ·exact { ne := by simp, left := agQ (.inr rfl), right := ahP (.inr rfl), signs := fun z => ⟨zX (by simp), zX (by simp), zX (by simp), zX (by simp)⟩ }
 ·exact { ne := by simp, left := fun z => aaH [114] z (by decide) (by decide), right := fun z => acN [107] z (by decide) (by decide), signs := fun z => ⟨zX (by simp), zX (by simp), zX (by simp), zX (by simp)⟩ }
end Go.Proofs.YtfkeflcdadlmdaaGreatDoor
