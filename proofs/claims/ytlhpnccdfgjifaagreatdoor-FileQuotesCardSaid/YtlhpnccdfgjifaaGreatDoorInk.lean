/-
  What is asked of the memory that a law begins with: the package variables hold what they were laid with.
-/
import Derived.Test.YtlhpnccdfgjifaaGreatDoorRows
import Derived.Lib.ItoaNum
namespace Go.Proofs.YtlhpnccdfgjifaaGreatDoor
open Go

def flatV : Nat → DataW Unit → Option (List Value)
  | 0, _ => none
  | _ + 1, .lit (.int k m) => some [.int k m]
  | _ + 1, .lit (.string s) => some [.string ⟨s.toArray⟩]
  | _ + 1, .lit (.bool b) => some [.bool b]
  | n + 1, .agg ds => ds.foldr (fun d r => match flatV n d, r with | some x, some y => some (x ++ y) | _, _ => none) (some [])
  | _, _ => none
def laidT : List (Nat × DataW Unit) := [(0, Rows.laid_tabard_locale_names), (1, Rows.laid_tabard_locale_signs), (4, Rows.laid_unicode_utf8_first), (5, Rows.laid_unicode_utf8_acceptRanges), (8, Rows.laid_internal_strconv_uint64pow10), (9, Rows.laid_tabard_funcs_names), (10, Rows.laid_math_bits_deBruijn32tab), (11, Rows.laid_math_bits_deBruijn64tab)]
structure Inv (W : World) : Prop where
  rows : ∀ n d, (n, d) ∈ laidT → ∀ xs, flatV 4 d = some xs → ∃ T fz, W.heap[n]? = some (.cells xs.toArray T fz)
  tab : ∃ t f, W.heap[8]? = some (.cells (Lib.pow10Tab.map fun z => Value.int .u64 z).toArray t f)
  errs : ∀ n, n = 2 ∨ n = 3 → ∃ te pe, W.cell? ⟨n, 0, none⟩ = some (.iface te pe)
  max : ∃ m, W.cell? ⟨6, 0, none⟩ = some (.int .i64 m)
  size : 14 ≤ W.heap.size
theorem laidT_lt {n : Nat} {d : DataW Unit} (h : (n, d) ∈ laidT) : n < 14 := by
  simp only [laidT, List.mem_cons, Prod.mk.injEq, List.not_mem_nil, or_false] at h
  omega
theorem cell_same {w w' : World} {b : Nat} (h : w'.heap[b]? = w.heap[b]?) : w'.cell? ⟨b, 0, none⟩ = w.cell? ⟨b, 0, none⟩ := by
  unfold World.cell?
  rw [h]
theorem Inv.grow {w w' : World} (h : Inv w) (hs : w.heap.size ≤ w'.heap.size) (hb : ∀ k, k < w.heap.size → w'.heap[k]? = w.heap[k]?) : Inv w' := by
  have h10 := h.size
  exact {
    rows := fun n d hn xs hx => by rw [hb n (by have := laidT_lt hn; omega)]; exact h.rows n d hn xs hx
    tab := by rw [hb 8 (by omega)]; exact h.tab
    errs := fun n hn => by rw [cell_same (hb n (by omega))]; exact h.errs n hn
    max := by rw [cell_same (hb 6 (by omega))]; exact h.max
    size := Nat.le_trans h10 hs }

end Go.Proofs.YtlhpnccdfgjifaaGreatDoor
