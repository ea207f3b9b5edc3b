/-
  The plain law: both say the same of a value.
-/
import Derived.Test.YtncoklpecffokaaGreatDoorVa3
namespace Go.Proofs.YtncoklpecffokaaGreatDoor
open Go Go.RowKit
theorem name_some (n : Int) : FailName n ≠ [] ↔ 1 ≤ n ∧ n ≤ 8 := by
  unfold FailName
  constructor
  · intro h
    by_cases h1 : n = 1
    · omega
    by_cases h2 : n = 2
    · omega
    by_cases h3 : n = 3
    · omega
    by_cases h4 : n = 4
    · omega
    by_cases h5 : n = 5
    · omega
    by_cases h6 : n = 6
    · omega
    by_cases h7 : n = 7
    · omega
    by_cases h8 : n = 8
    · omega
    simp [h1, h2, h3, h4, h5, h6, h7, h8] at h
  · rintro ⟨h1, h2⟩
    have : n = 1 ∨ n = 2 ∨ n = 3 ∨ n = 4 ∨ n = 5 ∨ n = 6 ∨ n = 7 ∨ n = 8 := by omega
    rcases this with rfl | rfl | rfl | rfl | rfl | rfl | rfl | rfl <;> decide
theorem right_same (v : Val) : RightV v = RightR v := by
  obtain ⟨k, b, i, t, f⟩ := v
  unfold RightV RightR
  simp only
  by_cases h0 : k = 0
  · subst h0; simp
  rw [if_neg h0, if_neg h0]
  by_cases h1 : k = 1
  · subst h1
    rw [if_pos rfl, if_pos rfl]
    unfold NumV FailV
    by_cases h : 3 ≤ KindF b
    · rw [if_pos h, decide_eq_false (show ¬ KindF b < 3 by omega)]; simp
    · rw [if_neg h, decide_eq_true (show KindF b < 3 by omega)]; simp
  rw [if_neg h1, if_neg h1]
  by_cases h2 : k = 2
  · subst h2; rfl
  rw [if_neg h2, if_neg h2]
  by_cases h3 : k = 3
  · subst h3
    rw [if_pos rfl, if_pos rfl]
    unfold TextV FailV
    by_cases h : 1000 < t.length
    · rw [if_pos h, decide_eq_false (show ¬ t.length ≤ 1000 by omega)]; simp
    · rw [if_neg h, decide_eq_true (show t.length ≤ 1000 by omega)]; simp
  rw [if_neg h3, if_neg h3]
  by_cases h4 : k = 4
  · subst h4
    rw [if_pos rfl, if_pos rfl]
    have e : decide (FailName f ≠ []) = (decide (1 ≤ f) && decide (f ≤ 8)) := by
      rw [← Bool.decide_and, decide_eq_decide]; exact name_some f
    rw [e, Bool.and_comm]; rfl
  rw [if_neg h4, if_neg h4]
end Go.Proofs.YtncoklpecffokaaGreatDoor
