/-
  What is asked of the memory that a law begins with: the package variables hold what they were laid with.
-/
import Derived.Test.YtncoklpecffokaaGreatDoorKb
namespace Go.Proofs.YtncoklpecffokaaGreatDoor
open Go Go.RowKit

def Inv (W : World) : Prop := ∃ g : Cc.G, g.ng = Cc.ng0 ∧ Cc.Sat g Cc.h0 W
theorem Inv.grow {W W' : World} (h : Inv W) (k : Cc.Grow W W') : Inv W' := let ⟨g, h1, h2⟩ := h; ⟨g, h1, h2.grows k⟩

end Go.Proofs.YtncoklpecffokaaGreatDoor
