/-
  Numbers as limbs of 32 bits, the lowest first: plain laws.
-/
import Derived.WalkKit
import Derived.Test.YtifoddpbmlajfaaGreatDoorS5
import Derived.Test.YtifoddpbmlajfaaGreatDoorS6
import Derived.Test.YtifoddpbmlajfaaGreatDoorProg
namespace Go.Proofs.YtifoddpbmlajfaaGreatDoor

def Limbs (xs : List Nat) : Prop := ∀ x, x ∈ xs → x < 4294967296
def val : List Nat → Nat
  | [] => 0
  | x :: xs => x + 4294967296 * val xs
theorem Limbs.cons {x : Nat} {xs : List Nat} (h : Limbs (x :: xs)) : x < 4294967296 ∧ Limbs xs := ⟨h x (by simp), fun y hy => h y (by simp [hy])⟩
theorem Limbs.mk {x : Nat} {xs : List Nat} (hx : x < 4294967296) (h : Limbs xs) : Limbs (x :: xs) := fun y hy => by
  rcases List.mem_cons.1 hy with rfl | hy
  · exact hx
  · exact h y hy
theorem Limbs.nil : Limbs [] := fun _ h => by simp at h
theorem Limbs.append {xs ys : List Nat} (h : Limbs xs) (k : Limbs ys) : Limbs (xs ++ ys) := fun y hy => by
  rcases List.mem_append.1 hy with h1 | h1
  · exact h y h1
  · exact k y h1
theorem Limbs.take {xs : List Nat} (h : Limbs xs) (n : Nat) : Limbs (xs.take n) := fun y hy => h y (List.mem_of_mem_take hy)
theorem Limbs.drop {xs : List Nat} (h : Limbs xs) (n : Nat) : Limbs (xs.drop n) := fun y hy => h y (List.mem_of_mem_drop hy)
theorem Limbs.rep {n x : Nat} (h : x < 4294967296) : Limbs (List.replicate n x) := fun y hy => by rw [List.eq_of_mem_replicate hy]; exact h
theorem Limbs.getD {xs : List Nat} (h : Limbs xs) (k : Nat) : xs.getD k 0 < 4294967296 := by
  rw [List.getD_eq_getElem?_getD]
  cases hk : xs[k]? with
  | none => simp
  | some x => exact h x (List.mem_of_getElem? hk)
end Go.Proofs.YtifoddpbmlajfaaGreatDoor

namespace Go.Proofs.YtifoddpbmlajfaaGreatDoor
open Go Go.RowKit

end Go.Proofs.YtifoddpbmlajfaaGreatDoor

namespace Go.Proofs.YtifoddpbmlajfaaGreatDoor
end Go.Proofs.YtifoddpbmlajfaaGreatDoor

namespace Go.Proofs.YtifoddpbmlajfaaGreatDoor
open Go Go.RowKit

end Go.Proofs.YtifoddpbmlajfaaGreatDoor

namespace Go.Proofs.YtifoddpbmlajfaaGreatDoor

theorem Limbs.set {zs : List Nat} (h : Limbs zs) {i v : Nat} (hv : v < 4294967296) : Limbs (zs.set i v) := fun y hy => by
  rcases List.mem_or_eq_of_mem_set hy with h1 | h1
  · exact h y h1
  · rw [h1]; exact hv
end Go.Proofs.YtifoddpbmlajfaaGreatDoor

namespace Go.Proofs.YtifoddpbmlajfaaGreatDoor
open Go Go.RowKit

end Go.Proofs.YtifoddpbmlajfaaGreatDoor

namespace Go.Proofs.YtifoddpbmlajfaaGreatDoor

theorem getD_set_ne {zs : List Nat} {i j v : Nat} (h : i ≠ j) : (zs.set i v).getD j 0 = zs.getD j 0 := by
  grind
end Go.Proofs.YtifoddpbmlajfaaGreatDoor

namespace Go.Proofs.YtifoddpbmlajfaaGreatDoor
open Go Go.RowKit

end Go.Proofs.YtifoddpbmlajfaaGreatDoor

namespace Go.Proofs.YtifoddpbmlajfaaGreatDoor
open Go Go.RowKit

end Go.Proofs.YtifoddpbmlajfaaGreatDoor
