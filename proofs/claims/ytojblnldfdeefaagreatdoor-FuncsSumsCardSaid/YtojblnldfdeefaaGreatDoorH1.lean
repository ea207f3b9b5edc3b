/-
  The head of the laws of functions: chapter 18's examples hold.
-/
import Derived.Test.YtojblnldfdeefaaGreatDoorKt0k
import Derived.Test.YtojblnldfdeefaaGreatDoorKt1k
import Derived.Test.YtojblnldfdeefaaGreatDoorKt2k
import Derived.Test.YtojblnldfdeefaaGreatDoorKt3k
import Derived.Test.YtojblnldfdeefaaGreatDoorKt4k
import Derived.Test.YtojblnldfdeefaaGreatDoorKt5k
import Derived.Test.YtojblnldfdeefaaGreatDoorKt6k
import Derived.Test.YtojblnldfdeefaaGreatDoorA4
namespace Go.Proofs.YtojblnldfdeefaaGreatDoor.Cc
open Go Go.RowKit

theorem head (H : Heap) : OCall P ng0 4 [] H (.bool true) H := by
  refine staged consts noNG Tryz.func4 (b := bodyC) (by kernel_rfl) rfl (x := .bool true) rfl (fun B => ?_) H
  refine stage_at consts rfl mixed call1_ok call1_ext (c := rest 0) sq0 st0 ok0 oe0 ?_
  refine stage_at consts rfl mixed call1_ok call1_ext (c := rest 1) sq1 st1 ok1 oe1 ?_
  refine stage_at consts rfl mixed call1_ok call1_ext (c := rest 2) sq2 st2 ok2 oe2 ?_
  refine stage_at consts rfl mixed call1_ok call1_ext (c := rest 3) sq3 st3 ok3 oe3 ?_
  refine stage_at consts rfl mixed call1_ok call1_ext (c := rest 4) sq4 st4 ok4 oe4 ?_
  refine stage_at consts rfl mixed call1_ok call1_ext (c := rest 5) sq5 st5 ok5 oe5 ?_
  refine stage_at consts rfl mixed call1_ok call1_ext (c := rest 6) sq6 st6 ok6 oe6 ?_
  refine stage_at consts rfl mixed call1_ok call1_ext (c := rest 7) sq7 st7 ok7 oe7 ?_
  refine stage_at consts rfl mixed call1_ok call1_ext (c := rest 8) sq8 st8 ok8 oe8 ?_
  refine stage_at consts rfl mixed call1_ok call1_ext (c := rest 9) sq9 st9 ok9 oe9 ?_
  exact last mixed call1_ok call1_ext runL

end Go.Proofs.YtojblnldfdeefaaGreatDoor.Cc

namespace Go.Proofs.YtojblnldfdeefaaGreatDoor
open Go Go.RowKit

def Cc.ocs : Cc.O → List Cc.V
  | .cells _ cs _ _ => cs
  | _ => []
def Cc.ty : Cc.O → TypeId
  | .cells T _ _ _ => T
  | _ => 0
def litCell : Cc.V → Value
  | .int k n => .int k n
  | .str s => .string ⟨s.toArray⟩
  | _ => undef
def litB : Cc.V → Bool
  | .int _ _ => true
  | .str s => Nat.ble s.length 1000
  | _ => false
theorem lit_rel {g : Cc.G} {x : Cc.V} (h : litB x = true) : Cc.RelV g x (litCell x) := by
  cases x with
  | int k n => exact .int _ _
  | str s => exact .str _ (Nat.le_trans (Nat.le_of_ble_eq_true h) (by decide))
  | _ => cases h
theorem lit_cells (g : Cc.G) {cs : List Cc.V} (h : cs.all litB = true) : Cc.RelCells g cs (cs.map litCell).toArray := by
  refine ⟨by simp, fun i c v hc hv => ?_⟩
  simp only [List.getElem?_toArray, List.getElem?_map, hc, Option.map_some, Option.some.injEq] at hv
  subst hv
  exact lit_rel (List.all_eq_true.1 h c (List.mem_of_getElem? hc))
theorem row_of {W : World} (hI : Inv W) {n : Nat} {d : DataW Unit} {k : Cc.O} (hn : (n, d) ∈ laidT) (hf : flatV 4 d = some ((Cc.ocs k).map litCell)) (hk : k = .cells (Cc.ty k) (Cc.ocs k) true true) (hl : (Cc.ocs k).all litB = true) :
    k = .gone ∨ ∃ T cs vs T' fz, k = .cells T cs true true ∧ W.heap[n]? = some (.cells vs T' fz) ∧ ∀ g, Cc.RelCells g cs vs := by
  obtain ⟨T, fz, h⟩ := hI.rows n d hn _ hf
  exact .inr ⟨_, _, _, T, fz, hk, h, fun g => lit_cells g hl⟩
set_option maxRecDepth 1000000 in
theorem fl0 : flatV 4 Rows.laid_tabard_locale_names = some ((Cc.ocs Cc.k0).map litCell) := by kernel_rfl
set_option maxRecDepth 1000000 in
theorem fl1 : flatV 4 Rows.laid_tabard_locale_signs = some ((Cc.ocs Cc.k1).map litCell) := by kernel_rfl
set_option maxRecDepth 1000000 in
theorem fl2 : flatV 4 Rows.laid_tabard_funcs_names = some ((Cc.ocs Cc.k2).map litCell) := by kernel_rfl
set_option maxRecDepth 1000000 in
theorem fl5 : flatV 4 Rows.laid_unicode_utf8_first = some ((Cc.ocs Cc.k5).map litCell) := by kernel_rfl
set_option maxRecDepth 1000000 in
theorem fl6 : flatV 4 Rows.laid_unicode_utf8_acceptRanges = some ((Cc.ocs Cc.k6).map litCell) := by kernel_rfl
set_option maxRecDepth 1000000 in
theorem fl10 : flatV 4 Rows.laid_internal_strconv_uint64pow10 = some ((Cc.ocs Cc.k10).map litCell) := by kernel_rfl
set_option maxRecDepth 1000000 in
theorem fl11 : flatV 4 Rows.laid_math_bits_deBruijn32tab = some ((Cc.ocs Cc.k11).map litCell) := by kernel_rfl
set_option maxRecDepth 1000000 in
theorem fl12 : flatV 4 Rows.laid_math_bits_deBruijn64tab = some ((Cc.ocs Cc.k12).map litCell) := by kernel_rfl
theorem consts_of {W : World} (hI : Inv W) : ∀ m x, Cc.t0.get m = some x → x = .gone ∨ ∃ T cs vs T' fz, x = .cells T cs true true ∧ W.heap[m]? = some (.cells vs T' fz) ∧ ∀ g, Cc.RelCells g cs vs := by
  intro m x hx
  rw [Cc.get_t0] at hx
  by_cases e12 : m = 12
  · rw [if_pos e12] at hx; rw [← Option.some.inj hx, e12]; exact row_of hI (by simp [laidT]) fl12 rfl (by kernel_rfl)
  rw [if_neg e12] at hx
  by_cases e11 : m = 11
  · rw [if_pos e11] at hx; rw [← Option.some.inj hx, e11]; exact row_of hI (by simp [laidT]) fl11 rfl (by kernel_rfl)
  rw [if_neg e11] at hx
  by_cases e10 : m = 10
  · rw [if_pos e10] at hx; rw [← Option.some.inj hx, e10]; exact row_of hI (by simp [laidT]) fl10 rfl (by kernel_rfl)
  rw [if_neg e10] at hx
  by_cases e9 : m = 9
  · rw [if_pos e9] at hx; rw [← Option.some.inj hx]; exact .inl rfl
  rw [if_neg e9] at hx
  by_cases e8 : m = 8
  · rw [if_pos e8] at hx; rw [← Option.some.inj hx]; exact .inl rfl
  rw [if_neg e8] at hx
  by_cases e7 : m = 7
  · rw [if_pos e7] at hx; rw [← Option.some.inj hx]; exact .inl rfl
  rw [if_neg e7] at hx
  by_cases e6 : m = 6
  · rw [if_pos e6] at hx; rw [← Option.some.inj hx, e6]; exact row_of hI (by simp [laidT]) fl6 rfl (by kernel_rfl)
  rw [if_neg e6] at hx
  by_cases e5 : m = 5
  · rw [if_pos e5] at hx; rw [← Option.some.inj hx, e5]; exact row_of hI (by simp [laidT]) fl5 rfl (by kernel_rfl)
  rw [if_neg e5] at hx
  by_cases e4 : m = 4
  · rw [if_pos e4] at hx; rw [← Option.some.inj hx]; exact .inl rfl
  rw [if_neg e4] at hx
  by_cases e3 : m = 3
  · rw [if_pos e3] at hx; rw [← Option.some.inj hx]; exact .inl rfl
  rw [if_neg e3] at hx
  by_cases e2 : m = 2
  · rw [if_pos e2] at hx; rw [← Option.some.inj hx, e2]; exact row_of hI (by simp [laidT]) fl2 rfl (by kernel_rfl)
  rw [if_neg e2] at hx
  by_cases e1 : m = 1
  · rw [if_pos e1] at hx; rw [← Option.some.inj hx, e1]; exact row_of hI (by simp [laidT]) fl1 rfl (by kernel_rfl)
  rw [if_neg e1] at hx
  by_cases e0 : m = 0
  · rw [if_pos e0] at hx; rw [← Option.some.inj hx, e0]; exact row_of hI (by simp [laidT]) fl0 rfl (by kernel_rfl)
  rw [if_neg e0] at hx
  cases hx
theorem ev_of {W : World} (hI : Inv W) : ∃ g : Cc.G, g.ng = Cc.ng0 ∧ Cc.Sat g Cc.h0 W := by
  have hsz := hI.size
  have hc := consts_of hI
  have hn : ∀ m x, Cc.t0.get m = some x → m < 13 := by
    intro m x h
    rcases Nat.lt_or_ge m 13 with h1 | h1
    · exact h1
    rw [Cc.get_t0] at h
    repeat rw [if_neg (by omega)] at h
    cases h
  have hro : ∀ m x, Cc.t0.get m = some x → x.own = false := fun m x h => Cc.ng0.ro m x h
  let g : Cc.G := { base := W, ng := Cc.ng0, bn := fun m => Nat.blt m 13, nm := fun m => m, vs := fun m => match W.heap[m]? with | some (.cells vs _ _) => vs.size | _ => 0
                    gl := fun b hb => ⟨by have hb : b < 13 := hb; simpa [Nat.blt_eq] using hb, rfl⟩, hinv := hI }
  refine ⟨g, rfl, ?_⟩
  exact {
    keep := Cc.Grow.refl W
    fresh := fun n h => by
      have h : 13 ≤ n := h
      cases e : Cc.t0.get n with
      | none => exact e
      | some x => have := hn n x e; omega
    dom := fun n x h => by have := hn n x h; show Nat.blt n 13 = true; simpa [Nat.blt_eq] using this
    bn := fun n h => by
      have h : Nat.blt n 13 = true := h
      exact Cc.consts.has n (by show n < 13; simpa [Nat.blt_eq] using h)
    at_ := fun n x h => by
      rcases hc n x h with rfl | ⟨T, cs, vs, T', fz, rfl, hh, hr⟩
      · trivial
      have e := (hr g).1
      refine ⟨vs, fz, ⟨T', hh, ?_⟩, ?_, ?_, by omega, fun _ => e, ?_⟩
      · intro q; cases q
      · intro q; cases q
      · show vs.size = match W.heap[n]? with | some (.cells vs _ _) => vs.size | _ => 0
        rw [hh]
      rw [e, Array.extract_size]; exact hr g
    own := fun n x h q => by rw [hro n x h] at q; cases q
    lt := fun n x h => by have := hn n x h; exact .inr (by show n < W.heap.size; omega)
    inj := fun n n' x x' h _ q => by rw [hro n x h] at q; cases q
    con := fun m x h => h }
theorem shown_calls (H : Heap) : ACall Tryz.prog 4 [] H (fun x H' => x = .bool true ∧ H' = H) := by
  intro g vs w hr hs
  have hI : Inv w := g.hinv.grow hs.below.size hs.below.block
  obtain ⟨gc, h1, h2⟩ := ev_of hI
  have hvs : vs = [] := by
    have := hr.1
    cases vs with
    | nil => rfl
    | cons => simp at this
  subst hvs
  rcases Cc.head Cc.h0 with ⟨hc, _⟩ | hv
  · refine (hc _ [] w rfl ⟨rfl, fun i x v hx _ => by simp at hx⟩ (Cc.alone_sat Cc.consts h1 h2)).mono ?_
    rintro e w' ⟨v, rfl, g', q1, q2, q3⟩
    cases q2
    have hg : Cc.Grow w w' := by have := q3.keep; rw [q1.base] at this; exact this
    exact ⟨_, rfl, g, .bool true, H, G.le.refl g, .bool true, hs.grow ⟨hg.os, hg.tape, hg.output, hg.size, hg.block⟩, rfl, rfl⟩
  obtain ⟨v, w', hrun, _⟩ := hv _ [] w rfl ⟨rfl, fun i x v hx _ => by simp at hx⟩ (Cc.alone_sat Cc.consts h1 h2)
  rw [Cc.enters Cc.noNG Tryz.func4 rfl #[] w] at hrun
  cases hrun

end Go.Proofs.YtojblnldfdeefaaGreatDoor
