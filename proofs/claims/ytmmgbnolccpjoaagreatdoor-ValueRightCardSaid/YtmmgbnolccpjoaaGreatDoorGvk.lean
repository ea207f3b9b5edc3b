import Derived.Test.YtmmgbnolccpjoaaGreatDoorGhk
import Derived.Test.YtmmgbnolccpjoaaGreatDoorV4
import Derived.Test.YtmmgbnolccpjoaaGreatDoorSrk
namespace Go.Proofs.YtmmgbnolccpjoaaGreatDoor
open Go Go.ChangeShapes Go.WideShapes Go.ChangeAt Go.RowKit

theorem wf64 {n : Int} (h : (Lit.int .u64 n).wf = true) : 0 ≤ n ∧ n < 18446744073709551616 := by
 simp [Lit.wf, IntKind.min, IntKind.max, IntKind.bits, IntKind.signed] at h
 omega
theorem wfi64 {n : Int} (h : (Lit.int .i64 n).wf = true) : -9223372036854775808 ≤ n ∧ n ≤ 9223372036854775807 := by
 simp [Lit.wf, IntKind.min, IntKind.max, IntKind.bits, IntKind.signed] at h
 omega
theorem cellOfV : Tryz.prog.cellsOf 24 = 5 := by kernel_rfl
theorem cellOfI : Tryz.prog.cellsOf 3 = 1 := by kernel_rfl
theorem cellOfU : Tryz.prog.cellsOf 22 = 1 := by kernel_rfl
theorem cellOfB : Tryz.prog.cellsOf 4 = 1 := by kernel_rfl
theorem cellOfS : Tryz.prog.cellsOf 9 = 1 := by kernel_rfl
set_option maxRecDepth 100000 in
theorem rd_val {W : World} {hI : Inv W} : Rd Tryz.prog W hI 24 (fun q : Val => q.av) (fun q => q.bits < 18446744073709551616 ∧ q.text.length ≤ maxLen) := by
 intro H enc fuel x cs h
 obtain ⟨hl, hget⟩ := rd_field (hI := hI) Tryz.underlying24 h
 rw [cellOfV] at hl
 match cs, hl with
 | [c0, c1, c2, c3, c4], _ =>
  obtain ⟨a, _, hra⟩ := hget 0 _ rfl 0 1 rfl cellOfI (arP (hI := hI) Tryz.underlying3)
  obtain ⟨b, hb, hrb⟩ := hget 1 _ rfl 1 1 rfl cellOfU (arP (hI := hI) Tryz.underlying22)
  obtain ⟨c, _, hrc⟩ := hget 2 _ rfl 2 1 rfl cellOfB (rd_bool (hI := hI) Tryz.underlying4)
  obtain ⟨d, hd, hrd⟩ := hget 3 _ rfl 3 1 rfl cellOfS (bdX (hI := hI) Tryz.underlying9)
  obtain ⟨e, _, hre⟩ := hget 4 _ rfl 4 1 rfl cellOfI (arP (hI := hI) Tryz.underlying3)
  have hb := wf64 hb
  obtain ⟨n, rfl⟩ := Int.eq_ofNat_of_zero_le hb.1
  exact ⟨⟨a, n, c, d, e⟩, ⟨by show n < _; omega, hd⟩, RelCells.pieces (n := 1) hra (RelCells.pieces (n := 1) hrb (RelCells.pieces (n := 1) hrc (RelCells.pieces (n := 1) hrd hre)))⟩
theorem bdY {P : Program} {W : World} {hI : Inv W} {t : TypeId} {α : Type} {fl : α → List AV} {ok : α → Prop} (hrd : Rd P W hI t (fun a => .agg (fl a)) ok) {H : Type} {enc : TypeId × Value → H} {vs : Array Value} {d : DataW H} {ps : List MemPlace} (h : DataW.Trod enc P W 0 (fun _ => true) true t (.agg vs) d ps) :
  ∃ a, ok a ∧ RelV (g0 W hI) (.agg (fl a)) (.agg vs) := by
 obtain ⟨fuel, hf⟩ := h
 obtain ⟨a, ha, hr⟩ := hrd enc fuel _ _ hf
 exact ⟨a, ha, .agg _ _ hr.1 hr.2⟩
end Go.Proofs.YtmmgbnolccpjoaaGreatDoor
