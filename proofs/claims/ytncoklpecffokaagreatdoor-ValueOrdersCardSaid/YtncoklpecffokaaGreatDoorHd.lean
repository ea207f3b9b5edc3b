/-
  The head of the laws, in the frame of the walks.
-/
import Derived.Test.YtncoklpecffokaaGreatDoorKe
import Derived.Test.YtncoklpecffokaaGreatDoorSr
namespace Go.Proofs.YtncoklpecffokaaGreatDoor
open Go Go.RowKit

theorem below_grow {B : Nat} {w w' : World} (h : Below B w w') (hB : w.heap.size ≤ B) : Cc.Grow w w' := ⟨h.os, h.tape, h.output, h.size, fun k hk => h.block k (Nat.lt_of_lt_of_le hk hB)⟩
theorem shown_calls (H : Heap) : ACall Tryz.prog 5 [] H (fun x H' => x = .bool true ∧ H' = H) := by
  intro g vs w hr hs
  have hI : Inv w := g.hinv.grow (below_grow hs.below (Nat.le_refl _))
  obtain ⟨gc, h1, h2⟩ := hI
  have hvs : vs = [] := by
    have := hr.1
    cases vs with
    | nil => rfl
    | cons => simp at this
  subst hvs
  rcases Cc.head Cc.h0 with ⟨hc, _⟩ | hv
  · refine (hc _ [] w rfl ⟨rfl, fun i x v hx _ => by simp at hx⟩ (Cc.alone_sat Cc.consts h1 h2)).mono ?_
    rintro e w' ⟨v, rfl, g', q1, q2, q3⟩
    cases q2
    have hg : Cc.Grow w w' := by have := q3.keep; rw [q1.base] at this; exact this
    exact ⟨_, rfl, g, .bool true, H, G.le.refl g, .bool true, hs.grow ⟨hg.os, hg.tape, hg.output, hg.size, hg.block⟩, rfl, rfl⟩
  · obtain ⟨v, w', hrun, _⟩ := hv _ [] w rfl ⟨rfl, fun i x v hx _ => by simp at hx⟩ (Cc.alone_sat Cc.consts h1 h2)
    rw [Cc.enters Cc.noNG Tryz.func5 rfl #[] w] at hrun
    cases hrun

end Go.Proofs.YtncoklpecffokaaGreatDoor
