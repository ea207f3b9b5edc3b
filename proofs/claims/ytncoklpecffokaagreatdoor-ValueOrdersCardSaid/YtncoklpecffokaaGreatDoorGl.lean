/-
  The lift: what the listed variables hold gives the memory that the walks lean on; a value's cells as data; a world that fits.
-/
import Derived.Test.YtncoklpecffokaaGreatDoorRows
import Derived.Test.YtncoklpecffokaaGreatDoorLf
import Derived.Test.YtncoklpecffokaaGreatDoorHd
import Derived.Test.YtncoklpecffokaaGreatDoorVa1
import Derived.Shelf.Vars
namespace Go.Proofs.YtncoklpecffokaaGreatDoor
open Go Go.ChangeShapes Go.WideShapes Go.ChangeAt Go.RowKit

theorem Tryz.own : ownKnob Tryz.prog.godebug = none := by kernel_rfl
theorem Tryz.laidOut : laidOutB Tryz.prog = true := by kernel_rfl

theorem Inv_mk {W : World} (hsz : 12 ≤ W.heap.size) (hm : ∃ m, W.cell? ⟨2, 0, none⟩ = some (.int .i64 m))
    (hc : ∀ m x, Cc.t0.get m = some x → x = .gone ∨ ∃ T cs vs T' fz, x = .cells T cs true true ∧ W.heap[m]? = some (.cells vs T' fz) ∧ ∀ g, Cc.RelCells g cs vs) : Inv W := by
  obtain ⟨m, hm⟩ := hm
  have hn : ∀ m x, Cc.t0.get m = some x → m < 12 := by
    intro m x h
    rcases Nat.lt_or_ge m 12 with h1 | h1
    · exact h1
    · rw [Cc.get_t0] at h
      repeat rw [if_neg (by omega)] at h
      cases h
  have hro : ∀ m x, Cc.t0.get m = some x → x.own = false := fun m x h => Cc.ng0.ro m x h
  let g : Cc.G := { base := W, ng := Cc.ng0, bn := fun m => Nat.blt m 12, nm := fun m => m, vs := fun m => match W.heap[m]? with | some (.cells vs _ _) => vs.size | _ => 0
                    gl := fun b hb => ⟨by have hb : b < 12 := hb; simpa [Nat.blt_eq] using hb, rfl⟩, hinv := ⟨m, hm, by omega⟩ }
  refine ⟨g, rfl, ?_⟩
  exact {
    keep := Cc.Grow.refl W
    fresh := fun n h => by
      have h : 12 ≤ n := h
      cases e : Cc.t0.get n with
      | none => exact e
      | some x => have := hn n x e; omega
    dom := fun n x h => by have := hn n x h; show Nat.blt n 12 = true; simpa [Nat.blt_eq] using this
    bn := fun n h => by
      have h : Nat.blt n 12 = true := h
      exact Cc.consts.has n (by show n < 12; simpa [Nat.blt_eq] using h)
    at_ := fun n x h => by
      rcases hc n x h with rfl | ⟨T, cs, vs, T', fz, rfl, hh, hr⟩
      · trivial
      · have e := (hr g).1
        refine ⟨vs, fz, ⟨T', hh, ?_⟩, ?_, ?_, by omega, fun _ => e, ?_⟩
        · intro q; cases q
        · intro q; cases q
        · show vs.size = match W.heap[n]? with | some (.cells vs _ _) => vs.size | _ => 0
          rw [hh]
        · rw [e, Array.extract_size]; exact hr g
    own := fun n x h q => by rw [hro n x h] at q; cases q
    lt := fun n x h => by have := hn n x h; exact .inr (by show n < W.heap.size; omega)
    inj := fun n n' x x' h _ q => by rw [hro n x h] at q; cases q
    con := fun m x h => h }

/-- The cells of a constant. -/
def Cc.ocs : Cc.O → List Cc.V
  | .cells _ cs _ _ => cs
  | _ => []
def laidL : List (String × DataW Unit) := Rows.valueMakesRow.laid
theorem laid_none : (laidL.filter fun x => x.2.handleName?.isSome) = [] := by kernel_rfl
theorem laid_met {W : World} (h : laidMetH Tryz.prog laidL W) : laidMet Tryz.prog laidL W := by
  unfold laidMetH at h
  rw [laid_none] at h
  exact h
set_option maxRecDepth 1000000 in
theorem flat0 : flatD 4 Rows.laid_tabard_locale_names = some (Cc.ocs Cc.k0) := by kernel_rfl
set_option maxRecDepth 1000000 in
theorem flat1 : flatD 4 Rows.laid_tabard_locale_signs = some (Cc.ocs Cc.k1) := by kernel_rfl
set_option maxRecDepth 1000000 in
theorem flat5 : flatD 4 Rows.laid_internal_strconv_uint64pow10 = some (Cc.ocs Cc.k5) := by kernel_rfl
set_option maxRecDepth 1000000 in
theorem flat6 : flatD 4 Rows.laid_unicode_utf8_first = some (Cc.ocs Cc.k6) := by kernel_rfl
set_option maxRecDepth 1000000 in
theorem flat7 : flatD 4 Rows.laid_unicode_utf8_acceptRanges = some (Cc.ocs Cc.k7) := by kernel_rfl
set_option maxRecDepth 1000000 in
theorem flat10 : flatD 4 Rows.laid_math_bits_deBruijn32tab = some (Cc.ocs Cc.k10) := by kernel_rfl
set_option maxRecDepth 1000000 in
theorem flat11 : flatD 4 Rows.laid_math_bits_deBruijn64tab = some (Cc.ocs Cc.k11) := by kernel_rfl
theorem laid_cells {W : World} (h : laidMetH Tryz.prog laidL W) : (∃ vs T fz, W.heap[0]? = some (.cells vs T fz) ∧ ∀ g, Cc.RelCells g (Cc.ocs Cc.k0) vs) ∧ (∃ vs T fz, W.heap[1]? = some (.cells vs T fz) ∧ ∀ g, Cc.RelCells g (Cc.ocs Cc.k1) vs) ∧ (∃ vs T fz, W.heap[5]? = some (.cells vs T fz) ∧ ∀ g, Cc.RelCells g (Cc.ocs Cc.k5) vs) ∧ (∃ vs T fz, W.heap[6]? = some (.cells vs T fz) ∧ ∀ g, Cc.RelCells g (Cc.ocs Cc.k6) vs) ∧ (∃ vs T fz, W.heap[7]? = some (.cells vs T fz) ∧ ∀ g, Cc.RelCells g (Cc.ocs Cc.k7) vs) ∧ (∃ vs T fz, W.heap[10]? = some (.cells vs T fz) ∧ ∀ g, Cc.RelCells g (Cc.ocs Cc.k10) vs) ∧ (∃ vs T fz, W.heap[11]? = some (.cells vs T fz) ∧ ∀ g, Cc.RelCells g (Cc.ocs Cc.k11) vs) := by
  obtain ⟨ps, h, _, _⟩ := laid_met h
  obtain ⟨p10, _, h⟩ := laid_plain h (b := 10) (by kernel_rfl) (t := 280) (by kernel_rfl) 4 (by kernel_rfl) flat10
  obtain ⟨p11, _, h⟩ := laid_plain h (b := 11) (by kernel_rfl) (t := 281) (by kernel_rfl) 4 (by kernel_rfl) flat11
  obtain ⟨p5, _, h⟩ := laid_plain h (b := 5) (by kernel_rfl) (t := 246) (by kernel_rfl) 4 (by kernel_rfl) flat5
  obtain ⟨p7, _, h⟩ := laid_plain h (b := 7) (by kernel_rfl) (t := 252) (by kernel_rfl) 4 (by kernel_rfl) flat7
  obtain ⟨_, _, h⟩ := laid_cons h (b := 9) (by kernel_rfl) (t := 170) (by kernel_rfl)
  obtain ⟨_, _, h⟩ := laid_cons h (b := 8) (by kernel_rfl) (t := 170) (by kernel_rfl)
  obtain ⟨p0, _, h⟩ := laid_plain h (b := 0) (by kernel_rfl) (t := 47) (by kernel_rfl) 4 (by kernel_rfl) flat0
  obtain ⟨p1, _, h⟩ := laid_plain h (b := 1) (by kernel_rfl) (t := 49) (by kernel_rfl) 4 (by kernel_rfl) flat1
  obtain ⟨p6, _, h⟩ := laid_plain h (b := 6) (by kernel_rfl) (t := 249) (by kernel_rfl) 4 (by kernel_rfl) flat6
  exact ⟨p0, p1, p5, p6, p7, p10, p11⟩
theorem max_glob : 2 < Tryz.prog.globals.size := of_decide_eq_true (by kernel_rfl)
theorem max_row : ((begin Tryz.prog (fun _ _ => 0) default).world.heap[2]?).bind Obj.row? = some (#[.int .i64 0], 3) := by kernel_rfl
theorem max_build : Tryz.prog.buildable 3 = true := by kernel_rfl
theorem max_types : Tryz.prog.cellTypes Tryz.prog.depth 3 = some [3] := by kernel_rfl
theorem max_cell {W : World} (hs : W.ShapedOpen Tryz.prog) : ∃ m, W.cell? ⟨2, 0, none⟩ = some (.int .i64 m) := cell_of_shapedOpen_int hs max_glob max_row rfl max_build max_types Tryz.underlying3
def Cc.ty : Cc.O → TypeId
  | .cells T _ _ _ => T
  | _ => 0
theorem row_key {W : World} {b : Nat} {k : Cc.O} (hk : k = .cells (Cc.ty k) (Cc.ocs k) true true) (h : ∃ vs T fz, W.heap[b]? = some (.cells vs T fz) ∧ ∀ g, Cc.RelCells g (Cc.ocs k) vs) :
    ∃ T0 cs' vs T' fz, k = .cells T0 cs' true true ∧ W.heap[b]? = some (.cells vs T' fz) ∧ ∀ g, Cc.RelCells g cs' vs :=
  let ⟨vs, T', fz, h1, h2⟩ := h; ⟨_, _, vs, T', fz, hk, h1, h2⟩
theorem Inv_of {W : World} (hs : W.ShapedOpen Tryz.prog) (hL : laidMetH Tryz.prog laidL W) : Inv W := by
  obtain ⟨p0, p1, p5, p6, p7, p10, p11⟩ := laid_cells hL
  refine Inv_mk ?_ (max_cell hs) ?_
  · obtain ⟨_, _, _, e, _⟩ := p11
    have := (Array.getElem?_eq_some_iff.1 e).1
    omega
  intro m x hx
  rw [Cc.get_t0] at hx
  by_cases e11 : m = 11
  · rw [if_pos e11] at hx
    rw [← Option.some.inj hx, e11]
    exact .inr (row_key rfl p11)
  rw [if_neg e11] at hx
  by_cases e10 : m = 10
  · rw [if_pos e10] at hx
    rw [← Option.some.inj hx, e10]
    exact .inr (row_key rfl p10)
  rw [if_neg e10] at hx
  by_cases e9 : m = 9
  · rw [if_pos e9] at hx
    rw [← Option.some.inj hx, e9]
    exact .inl rfl
  rw [if_neg e9] at hx
  by_cases e8 : m = 8
  · rw [if_pos e8] at hx
    rw [← Option.some.inj hx, e8]
    exact .inl rfl
  rw [if_neg e8] at hx
  by_cases e7 : m = 7
  · rw [if_pos e7] at hx
    rw [← Option.some.inj hx, e7]
    exact .inr (row_key rfl p7)
  rw [if_neg e7] at hx
  by_cases e6 : m = 6
  · rw [if_pos e6] at hx
    rw [← Option.some.inj hx, e6]
    exact .inr (row_key rfl p6)
  rw [if_neg e6] at hx
  by_cases e5 : m = 5
  · rw [if_pos e5] at hx
    rw [← Option.some.inj hx, e5]
    exact .inr (row_key rfl p5)
  rw [if_neg e5] at hx
  by_cases e4 : m = 4
  · rw [if_pos e4] at hx
    rw [← Option.some.inj hx, e4]
    exact .inl rfl
  rw [if_neg e4] at hx
  by_cases e3 : m = 3
  · rw [if_pos e3] at hx
    rw [← Option.some.inj hx, e3]
    exact .inl rfl
  rw [if_neg e3] at hx
  by_cases e2 : m = 2
  · rw [if_pos e2] at hx
    rw [← Option.some.inj hx, e2]
    exact .inl rfl
  rw [if_neg e2] at hx
  by_cases e1 : m = 1
  · rw [if_pos e1] at hx
    rw [← Option.some.inj hx, e1]
    exact .inr (row_key rfl p1)
  rw [if_neg e1] at hx
  by_cases e0 : m = 0
  · rw [if_pos e0] at hx
    rw [← Option.some.inj hx, e0]
    exact .inr (row_key rfl p0)
  rw [if_neg e0] at hx
  cases hx

/-! ### a value's cells -/
theorem wf64 {n : Int} (h : (Lit.int .u64 n).wf = true) : 0 ≤ n ∧ n < 18446744073709551616 := by
  simp [Lit.wf, IntKind.min, IntKind.max, IntKind.bits, IntKind.signed] at h
  omega
def Val.ok (v : Val) : Prop := (0 ≤ v.bits ∧ v.bits < 18446744073709551616) ∧ v.text.length ≤ maxLen
theorem rd_val (W : World) (hI : Inv W) : Rd Tryz.prog W hI 24 Val.av Val.ok := by
  intro H enc fuel x cs h
  obtain ⟨hl, hget⟩ := rd_field Tryz.underlying24 h
  have c24 : Tryz.prog.cellsOf 24 = 5 := by kernel_rfl
  have c3 : Tryz.prog.cellsOf 3 = 1 := by kernel_rfl
  have c22 : Tryz.prog.cellsOf 22 = 1 := by kernel_rfl
  have c4 : Tryz.prog.cellsOf 4 = 1 := by kernel_rfl
  have c9 : Tryz.prog.cellsOf 9 = 1 := by kernel_rfl
  rw [c24] at hl
  obtain ⟨z0, z1, z2, z3, z4, rfl⟩ : ∃ z0 z1 z2 z3 z4, cs = [z0, z1, z2, z3, z4] := by
    match cs, hl with
    | [z0, z1, z2, z3, z4], _ => exact ⟨_, _, _, _, _, rfl⟩
  obtain ⟨a, ha, hra⟩ := hget 0 _ rfl 0 1 rfl c3 (rd_int Tryz.underlying3)
  obtain ⟨b, hb, hrb⟩ := hget 1 _ rfl 1 1 rfl c22 (rd_int Tryz.underlying22)
  obtain ⟨c, hc, hrc⟩ := hget 2 _ rfl 2 1 rfl c4 (rd_bool Tryz.underlying4)
  obtain ⟨d, hd, hrd⟩ := hget 3 _ rfl 3 1 rfl c9 (rd_string Tryz.underlying9)
  obtain ⟨e, he, hre⟩ := hget 4 _ rfl 4 1 rfl c3 (rd_int Tryz.underlying3)
  refine ⟨⟨a, b, c, d, e⟩, ⟨wf64 hb, hd⟩, ?_⟩
  exact RelCells.pieces (n := 1) hra (RelCells.pieces (n := 1) hrb (RelCells.pieces (n := 1) hrc (RelCells.pieces (n := 1) hrd hre)))
theorem rd_row {P : Program} {W : World} {hI : Inv W} {t : TypeId} {α : Type} {av : α → AV} {ok : α → Prop} (hrd : Rd P W hI t av ok) {H : Type} {enc : TypeId × Value → H} {cs : Array Value} {d : DataW H} {ps : List MemPlace} (h : DataW.Trod enc P W 0 (fun _ => true) true t (.agg cs) d ps)
    (hone : ∀ a, ∃ xs, av a = .agg xs) : ∃ a, ok a ∧ RelV (g0 W hI) (av a) (.agg cs) := by
  obtain ⟨fuel, hf⟩ := h
  obtain ⟨a, ha, hr⟩ := hrd enc fuel _ _ hf
  refine ⟨a, ha, ?_⟩
  obtain ⟨xs, e⟩ := hone a
  rw [e] at hr ⊢
  have hr : RelCells (g0 W hI) xs cs := by simpa [AV.cells, Value.cells] using hr
  exact .agg _ _ hr.1 hr.2

/-! ### a world that fits -/
noncomputable def low : Nat := (World.holding Tryz.prog default ⟨#[], #[], []⟩).heap.size
def litCell : Cc.V → Value
  | .int k n => .int k n
  | .str s => .string ⟨s.toArray⟩
  | _ => undef
noncomputable def lay (h : Array Obj) (b : Nat) (vs : Array Value) : Array Obj := h.modify b fun
  | .cells _ t fz => .cells vs t fz
  | o => o
noncomputable def laidWorld (os : Os) : World :=
  let w0 := World.holding Tryz.prog os ⟨#[.cells #[.string ⟨#[118, 97, 108, 117, 101, 32, 111, 117, 116, 32, 111, 102, 32, 114, 97, 110, 103, 101]⟩] 285, .cells #[.string ⟨#[105, 110, 118, 97, 108, 105, 100, 32, 115, 121, 110, 116, 97, 120]⟩] 285], #[], []⟩
  let h := w0.heap
  let h := lay h 0 ((Cc.ocs Cc.k0).map litCell).toArray
  let h := lay h 1 ((Cc.ocs Cc.k1).map litCell).toArray
  let h := lay h 5 ((Cc.ocs Cc.k5).map litCell).toArray
  let h := lay h 6 ((Cc.ocs Cc.k6).map litCell).toArray
  let h := lay h 7 ((Cc.ocs Cc.k7).map litCell).toArray
  let h := lay h 10 ((Cc.ocs Cc.k10).map litCell).toArray
  let h := lay h 11 ((Cc.ocs Cc.k11).map litCell).toArray
  let h := lay h 9 #[.iface 283 (.pointer (some ⟨low, 0, none⟩))]
  let h := lay h 8 #[.iface 283 (.pointer (some ⟨low + 1, 0, none⟩))]
  { w0 with heap := h }
set_option maxRecDepth 1000000 in
theorem laidWorld_met (os : Os) (args : Array Value) : laidMetH Tryz.prog laidL ((laidWorld os).forCall (fun _ _ => 0) ⟨#[], args, []⟩).memory :=
  laidMet_of_run' 8 (by kernel_rfl) (by kernel_rfl)

end Go.Proofs.YtncoklpecffokaaGreatDoor
