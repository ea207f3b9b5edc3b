import Derived.Test.YtmmgbnolccpjoaaGreatDoorB2
namespace Go.Proofs.YtmmgbnolccpjoaaGreatDoor
open Go.Proofs.Tryz
open Go Go.RowKit
variable {c : UInt8}
section
open Go Go.RowKit Go.Lib

theorem bhJ {q s : List UInt8} : replaceAll s (c :: q) [] = replaceK (c :: q) [] (count s (c :: q)) s := by
 unfold replaceAll replace
 rw [aL aF]
 unfold replaceNum
 rw [aN (.inl aC)]
theorem awM {q a z : List UInt8} (ha : c ∉ a) : replaceAll (a ++ (c :: q) ++ z) (c :: q) [] = a ++ replaceAll z (c :: q) [] := by
 have hi := apA (c := c) (r := q) (z := z) ha
 have hd : (a ++ (c :: q) ++ z).drop (a.length + (c :: q).length) = z := by rw [show a.length + (c :: q).length = (a ++ (c :: q)).length by simp]; exact cR
 have ht : (a ++ (c :: q) ++ z).take a.length = a := by rw [aQ, fC]
 rw [bhJ, bhJ]
 have hc : count (a ++ (c :: q) ++ z) (c :: q) = count z (c :: q) + 1 := by
  unfold count
  rw [countFrom, aL (by rw [hi, beq_iff_eq]; omega), hi, cX, hd, eO 1]
  congr 1
  exact countFrom_fuel aF _ z (by simp only [aP, aU]; omega) _ aA
 rw [hc, replaceK_hit _ _ _ _ _ hi, ht, hd, bM]
theorem bhG {q : List UInt8} : replaceAll [] (c :: q) [] = [] := aqL rfl
theorem azN {q a s : List UInt8} (ha : c ∉ a) (hs : s = [] ∨ ∃ z, s = (c :: q) ++ z) : replaceAll (a ++ s) (c :: q) [] = a ++ replaceAll s (c :: q) [] := by
 rcases hs with rfl | ⟨z, rfl⟩
 ·rw [bM, bhG, bM]; exact aqL (aoZ ha)
 have h2 := awM (c := c) (q := q) (a := []) (z := z) aF
 rw [cF, cF] at h2
 rw [← aQ, awM ha, h2]
end
section
open Go Go.RowKit Go.Lib

def Loc.grpOk (l : Loc) : Prop := ∀ x ∈ l.grp, x ≠ 69 ∧ x ≠ 101 ∧ l.dc ≠ [x]
theorem blV : ∀ l ∈ locs, l.grpOk := by
 intro l hl
 simp only [locs, cO, eI, or_false] at hl
 rcases hl with rfl | rfl | rfl | rfl | rfl | rfl <;> (unfold Loc.grpOk; decide)
end
section
open Go Go.RowKit Go.Lib

structure Loc.moneyOk (l : Loc) : Prop where
 ne : l.cur ≠ []
 left : ∀ z, zQ (decodeL (l.cur ++ z)).1 = false
 right : ∀ z, zQ (decodeLastL (z ++ l.cur)).1 = false
 signs : ∀ z, hasPrefix (l.cur ++ z) [40] = false ∧ hasPrefix (l.cur ++ z) [43] = false ∧ hasPrefix (l.cur ++ z) [45] = false ∧ hasPrefix (l.cur ++ z) l.minus = false
theorem abG (r z : List UInt8) (h : c.toNat < 128) (hb : zQ c.toNat = false) : zQ (decodeL ((c :: r) ++ z)).1 = false := by
 rw [show decodeL ((c :: r) ++ z) = (c.toNat, 1) by rw [decodeL_N]; exact decodeN_ascii _ _ _ _ _ h]; exact hb
theorem adU (r z : List UInt8) (h : c.toNat < 128) (hb : zQ c.toNat = false) : zQ (decodeLastL (z ++ (r ++ [c]))).1 = false := by
 have : decodeLastL (z ++ (r ++ [c])) = (c.toNat, 1) := by
  unfold decodeLastL
  rw [aL aF, ← aQ, abR aF, aN (by simpa using h)]; rfl
 rw [this]; exact hb
theorem ajL {b : UInt8} (hb : b = 172 ∨ b = 185) (z : List UInt8) : zQ (decodeL (([226, 130, b] : List UInt8) ++ z)).1 = false := by
 rcases hb with rfl | rfl
 ·have : decodeL (([226, 130, 172] : List UInt8) ++ z) = (8364, 3) := by
   rw [decodeL_N]
   simp only [cQ, cF, cG, dB, aU]
   unfold decodeN
   simp
  rw [this]; decide
 have : decodeL (([226, 130, 185] : List UInt8) ++ z) = (8377, 3) := by
  rw [decodeL_N]
  simp only [cQ, cF, cG, dB, aU]
  unfold decodeN
  simp
 rw [this]; decide
theorem akN {b : UInt8} (hb : b = 172 ∨ b = 185) (z : List UInt8) : zQ (decodeLastL (z ++ [226, 130, b])).1 = false := by
 have hst : lastStart (z ++ [226, 130, b]) = z.length := by
  have g2 : (z ++ [226, 130, b]).getD ((z ++ [226, 130, b]).length - 2) 0 = 130 := by simp [List.getD, dC]
  have g3 : (z ++ [226, 130, b]).getD ((z ++ [226, 130, b]).length - 3) 0 = 226 := by simp [List.getD, dC]
  unfold lastStart
  simp only [g2, g3]
  rw [aL aF, aL aC, aL aF, aN aC]
  simp
 have e : (z ++ [226, 130, b]).getD ((z ++ [226, 130, b]).length - 1) 0 = b := by simp [List.getD, dC]
 have h0 := ajL hb []
 rw [bM] at h0
 have hw : (decodeL [226, 130, b]).2 = 3 := by rcases hb with rfl | rfl <;> decide +kernel
 unfold decodeLastL
 rw [aL aF, e, aL (by rcases hb with rfl | rfl <;> decide), hst, cR]
 simp only
 rw [aN (by rw [hw]; simp)]
 exact h0
theorem blU : ∀ l ∈ locs, l.moneyOk := by
 intro l hl
 simp only [locs, cO, eI, or_false] at hl
 rcases hl with rfl | rfl | rfl | rfl | rfl | rfl
 ·exact { ne := by simp, left := fun z => abG [72, 70] z aC aC, right := fun z => adU [67, 72] z aC aC, signs := fun z => ⟨zZ aF, zZ aF, zZ aF, zZ aF⟩ }
 ·exact { ne := by simp, left := ajL (.inl rfl), right := akN (.inl rfl), signs := fun z => ⟨zZ aF, zZ aF, zZ aF, zZ aF⟩ }
 ·exact { ne := by simp, left := fun z => abG [] z aC aC, right := fun z => adU [] z aC aC, signs := fun z => ⟨zZ aF, zZ aF, zZ aF, zZ aF⟩ }
 ·exact { ne := by simp, left := ajL (.inl rfl), right := akN (.inl rfl), signs := fun z => ⟨zZ aF, zZ aF, zZ aF, zZ aF⟩ }
 ·exact { ne := by simp, left := ajL (.inr rfl), right := akN (.inr rfl), signs := fun z => ⟨zZ aF, zZ aF, zZ aF, zZ aF⟩ }
 exact { ne := by simp, left := fun z => abG [114] z aC aC, right := fun z => adU [107] z aC aC, signs := fun z => ⟨zZ aF, zZ aF, zZ aF, zZ aF⟩ }
end
end Go.Proofs.YtmmgbnolccpjoaaGreatDoor
