/-
  The lift: what the listed variables hold gives the memory that the walks lean on; a world that fits.
-/
import Derived.Test.YtifoddpbmlajfaaGreatDoorL1
import Derived.Shelf.Vars
import Derived.ChangeAt
import Derived.Test.YtifoddpbmlajfaaGreatDoorHak
namespace Go.Proofs.YtifoddpbmlajfaaGreatDoor
open Go Go.ChangeShapes Go.WideShapes Go.ChangeAt Go.RowKit

theorem Tryz.own : ownKnob Tryz.prog.godebug = none := by kernel_rfl
theorem Tryz.laidOut : laidOutB Tryz.prog = true := by kernel_rfl
def laidL : List (String × DataW Unit) := Rows.funcsRightRow.laid
theorem laid_none : (laidL.filter fun x => x.2.handleName?.isSome) = [] := by kernel_rfl
theorem laid_met {W : World} (h : laidMetH Tryz.prog laidL W) : laidMet Tryz.prog laidL W := by
  unfold laidMetH at h
  rw [laid_none] at h
  exact h
theorem trod_held {P : Program} {W : World} {sp : Nat → Bool} {t : TypeId} {ms : Array (String × TypeId)} (ht : P.underlying t = some (.interface ms)) {n : Nat} {cs : List Value} {nm : String} {d : DataW Unit} {pe : List MemPlace}
    (h : DataW.trod (fun _ => ()) P W 0 sp false n t cs = some (.iface nm d, pe)) : ∃ u v, cs = [.iface u v] := by
  cases n with
  | zero => simp [DataW.trod] at h
  | succ n =>
    match cs, h with
    | [], h => simp [DataW.trod, ht] at h
    | [E], h =>
      cases E with
      | nilIface => simp [DataW.trod, ht] at h
      | iface u v => exact ⟨u, v, rfl⟩
      | _ => simp [DataW.trod, ht] at h
    | _ :: _ :: _, h => simp [DataW.trod, ht] at h
theorem iface_cell {W : World} {n : Nat} (h : ∃ fuel p vs T fz, W.heap[n]? = some (.cells vs T fz) ∧ DataW.trod (fun _ => ()) Tryz.prog W 0 (fun _ => true) false fuel 226 vs.toList = some p ∧ ∃ nm d, p.1 = .iface nm d) : ∃ te pe, W.cell? ⟨n, 0, none⟩ = some (.iface te pe) := by
  obtain ⟨fuel, ⟨d0, pe⟩, vs, T, fz, h1, h2, nm, d, rfl⟩ := h
  obtain ⟨u, v, hc⟩ := trod_held Tryz.underlying226 h2
  refine ⟨u, v, ?_⟩
  unfold World.cell?
  rw [h1]
  have : vs = #[.iface u v] := by rw [← Array.toList_inj]; exact hc
  rw [this]; rfl
theorem max_glob : 9 < Tryz.prog.globals.size := of_decide_eq_true (by kernel_rfl)
theorem max_row : ((begin Tryz.prog (fun _ _ => 0) default).world.heap[9]?).bind Obj.row? = some (#[.int .i64 0], 3) := by kernel_rfl
theorem max_build : Tryz.prog.buildable 3 = true := by kernel_rfl
theorem max_types : Tryz.prog.cellTypes Tryz.prog.depth 3 = some [3] := by kernel_rfl
theorem max_cell {W : World} (hs : W.ShapedOpen Tryz.prog) : ∃ m, W.cell? ⟨9, 0, none⟩ = some (.int .i64 m) := cell_of_shapedOpen_int hs max_glob max_row rfl max_build max_types Tryz.underlying3
theorem pow_is : flatV 4 Rows.laid_internal_strconv_uint64pow10 = some (Lib.pow10Tab.map fun z => Value.int .u64 z) := by kernel_rfl
def Holds (W : World) (n : Nat) (d : DataW Unit) : Prop := ∀ xs, flatV 4 d = some xs → ∃ T fz, W.heap[n]? = some (.cells xs.toArray T fz)
set_option maxRecDepth 1000000 in
theorem some0 : (flatV 4 Rows.laid_math_bits_deBruijn64tab).isSome = true := by kernel_rfl
theorem Inv_of {W : World} (hs : W.ShapedOpen Tryz.prog) (hL : laidMetH Tryz.prog laidL W) : Inv W := by
  obtain ⟨ps, h, _, _⟩ := laid_met hL
  have p11 : Holds W 11 Rows.laid_math_bits_deBruijn32tab := fun xs hx => (laid_plain h (b := 11) (by kernel_rfl) (t := 437) (by kernel_rfl) 4 (by kernel_rfl) hx).1
  obtain ⟨_, _, h⟩ := laid_cons h (b := 11) (by kernel_rfl) (t := 437) (by kernel_rfl)
  have p12 : Holds W 12 Rows.laid_math_bits_deBruijn64tab := fun xs hx => (laid_plain h (b := 12) (by kernel_rfl) (t := 438) (by kernel_rfl) 4 (by kernel_rfl) hx).1
  obtain ⟨_, _, h⟩ := laid_cons h (b := 12) (by kernel_rfl) (t := 438) (by kernel_rfl)
  have p10 : Holds W 10 Rows.laid_internal_strconv_uint64pow10 := fun xs hx => (laid_plain h (b := 10) (by kernel_rfl) (t := 425) (by kernel_rfl) 4 (by kernel_rfl) hx).1
  obtain ⟨_, _, h⟩ := laid_cons h (b := 10) (by kernel_rfl) (t := 425) (by kernel_rfl)
  have p6 : Holds W 6 Rows.laid_unicode_utf8_acceptRanges := fun xs hx => (laid_plain h (b := 6) (by kernel_rfl) (t := 377) (by kernel_rfl) 4 (by kernel_rfl) hx).1
  obtain ⟨_, _, h⟩ := laid_cons h (b := 6) (by kernel_rfl) (t := 377) (by kernel_rfl)
  obtain ⟨⟨f8, q8, v8, T8, z8, a8, b8⟩, _, h⟩ := laid_cons h (b := 8) (by kernel_rfl) (t := 226) (by kernel_rfl)
  obtain ⟨⟨f7, q7, v7, T7, z7, a7, b7⟩, _, h⟩ := laid_cons h (b := 7) (by kernel_rfl) (t := 226) (by kernel_rfl)
  have p0 : Holds W 0 Rows.laid_tabard_locale_names := fun xs hx => (laid_plain h (b := 0) (by kernel_rfl) (t := 61) (by kernel_rfl) 4 (by kernel_rfl) hx).1
  obtain ⟨_, _, h⟩ := laid_cons h (b := 0) (by kernel_rfl) (t := 61) (by kernel_rfl)
  have p1 : Holds W 1 Rows.laid_tabard_locale_signs := fun xs hx => (laid_plain h (b := 1) (by kernel_rfl) (t := 63) (by kernel_rfl) 4 (by kernel_rfl) hx).1
  obtain ⟨_, _, h⟩ := laid_cons h (b := 1) (by kernel_rfl) (t := 63) (by kernel_rfl)
  have p2 : Holds W 2 Rows.laid_tabard_funcs_names := fun xs hx => (laid_plain h (b := 2) (by kernel_rfl) (t := 72) (by kernel_rfl) 4 (by kernel_rfl) hx).1
  obtain ⟨_, _, h⟩ := laid_cons h (b := 2) (by kernel_rfl) (t := 72) (by kernel_rfl)
  have p5 : Holds W 5 Rows.laid_unicode_utf8_first := fun xs hx => (laid_plain h (b := 5) (by kernel_rfl) (t := 374) (by kernel_rfl) 4 (by kernel_rfl) hx).1
  exact {
    rows := fun n d hn xs hx => by
      simp only [laidT, List.mem_cons, Prod.mk.injEq, List.not_mem_nil, or_false] at hn
      rcases hn with ⟨rfl, rfl⟩ | ⟨rfl, rfl⟩ | ⟨rfl, rfl⟩ | ⟨rfl, rfl⟩ | ⟨rfl, rfl⟩ | ⟨rfl, rfl⟩ | ⟨rfl, rfl⟩ | ⟨rfl, rfl⟩
      · exact p0 xs hx
      · exact p1 xs hx
      · exact p2 xs hx
      · exact p5 xs hx
      · exact p6 xs hx
      · exact p10 xs hx
      · exact p11 xs hx
      · exact p12 xs hx
    tab := by
      obtain ⟨T, fz, e⟩ := p10 _ pow_is
      exact ⟨T, fz, e⟩
    errs := fun n hn => by
      rcases hn with rfl | rfl
      · exact iface_cell ⟨f7, _, v7, T7, z7, a7, b7, _, _, rfl⟩
      · exact iface_cell ⟨f8, _, v8, T8, z8, a8, b8, _, _, rfl⟩
    max := max_cell hs
    size := by
      obtain ⟨x9, h9⟩ := Option.isSome_iff_exists.1 some0
      obtain ⟨_, _, e⟩ := p12 x9 h9
      have := (Array.getElem?_eq_some_iff.1 e).1
      omega }

/-! ### a world that fits -/
noncomputable def low : Nat := (World.holding Tryz.prog default ⟨#[], #[], []⟩).heap.size
noncomputable def lay (h : Array Obj) (b : Nat) (vs : Array Value) : Array Obj := h.modify b fun
  | .cells _ t fz => .cells vs t fz
  | o => o
noncomputable def laidWorld (os : Os) : World :=
  let w0 := World.holding Tryz.prog os ⟨#[.cells #[.string ⟨#[118, 97, 108, 117, 101, 32, 111, 117, 116, 32, 111, 102, 32, 114, 97, 110, 103, 101]⟩] 409, .cells #[.string ⟨#[105, 110, 118, 97, 108, 105, 100, 32, 115, 121, 110, 116, 97, 120]⟩] 409], #[], []⟩
  let h := w0.heap
  let h := lay h 11 ((flatV 4 Rows.laid_math_bits_deBruijn32tab).getD []).toArray
  let h := lay h 12 ((flatV 4 Rows.laid_math_bits_deBruijn64tab).getD []).toArray
  let h := lay h 10 ((flatV 4 Rows.laid_internal_strconv_uint64pow10).getD []).toArray
  let h := lay h 6 ((flatV 4 Rows.laid_unicode_utf8_acceptRanges).getD []).toArray
  let h := lay h 0 ((flatV 4 Rows.laid_tabard_locale_names).getD []).toArray
  let h := lay h 1 ((flatV 4 Rows.laid_tabard_locale_signs).getD []).toArray
  let h := lay h 2 ((flatV 4 Rows.laid_tabard_funcs_names).getD []).toArray
  let h := lay h 5 ((flatV 4 Rows.laid_unicode_utf8_first).getD []).toArray
  let h := lay h 8 #[.iface 407 (.pointer (some ⟨low, 0, none⟩))]
  let h := lay h 7 #[.iface 407 (.pointer (some ⟨low + 1, 0, none⟩))]
  { w0 with heap := h }
set_option maxRecDepth 1000000 in
theorem laidWorld_met (os : Os) (args : Array Value) : laidMetH Tryz.prog laidL ((laidWorld os).forCall (fun _ _ => 0) ⟨#[], args, []⟩).memory :=
  laidMet_of_run' 8 (by kernel_rfl) (by kernel_rfl)

end Go.Proofs.YtifoddpbmlajfaaGreatDoor

namespace Go.Proofs.YtifoddpbmlajfaaGreatDoor
open Go Go.ChangeShapes Go.WideShapes Go.ChangeAt Go.RowKit

theorem wf64 {n : Int} (h : (Lit.int .u64 n).wf = true) : 0 ≤ n ∧ n < 18446744073709551616 := by
  simp [Lit.wf, IntKind.min, IntKind.max, IntKind.bits, IntKind.signed] at h
  omega
theorem cellOf3 : Tryz.prog.cellsOf 3 = 1 := by kernel_rfl
theorem cellOf4 : Tryz.prog.cellsOf 4 = 1 := by kernel_rfl
theorem cellOf9 : Tryz.prog.cellsOf 9 = 1 := by kernel_rfl
theorem cellOf22 : Tryz.prog.cellsOf 22 = 1 := by kernel_rfl
theorem cellOf24 : Tryz.prog.cellsOf 24 = 5 := by kernel_rfl
theorem cellOf36 : Tryz.prog.cellsOf 36 = 1 := by kernel_rfl
theorem cellOf46 : Tryz.prog.cellsOf 46 = 4 := by kernel_rfl
theorem av_nat {a : Int} (h : 0 ≤ a) : AV.int .u64 ((a.toNat : Nat) : Int) = AV.int .u64 a := by rw [show ((a.toNat : Nat) : Int) = a by omega]
set_option maxRecDepth 100000 in
theorem rd_val {W : World} {hI : Inv W} : Rd Tryz.prog W hI 24 Val.av Val.fits := by
  intro H enc fuel x cs h
  obtain ⟨hl, hget⟩ := rd_field (hI := hI) Tryz.underlying24 h
  rw [cellOf24] at hl
  match cs, hl with
  | [c0, c1, c2, c3, c4], _ =>
    obtain ⟨a, _, hra⟩ := hget 0 _ rfl 0 1 rfl cellOf3 (rd_int (hI := hI) Tryz.underlying3)
    obtain ⟨b, hb, hrb⟩ := hget 1 _ rfl 1 1 rfl cellOf22 (rd_int (hI := hI) Tryz.underlying22)
    obtain ⟨c, _, hrc⟩ := hget 2 _ rfl 2 1 rfl cellOf4 (rd_bool (hI := hI) Tryz.underlying4)
    obtain ⟨d, hd, hrd⟩ := hget 3 _ rfl 3 1 rfl cellOf9 (rd_string (hI := hI) Tryz.underlying9)
    obtain ⟨e, _, hre⟩ := hget 4 _ rfl 4 1 rfl cellOf3 (rd_int (hI := hI) Tryz.underlying3)
    have hb := wf64 hb
    refine ⟨⟨a, b.toNat, c, d, e⟩, ⟨(by show b.toNat < _; omega), hd⟩, ?_⟩
    rw [← av_nat hb.1] at hrb
    exact RelCells.pieces (n := 1) hra (RelCells.pieces (n := 1) hrb (RelCells.pieces (n := 1) hrc (RelCells.pieces (n := 1) hrd hre)))
set_option maxRecDepth 100000 in
theorem rd_argN {W : World} {hI : Inv W} : Rd Tryz.prog W hI 46 ArgN.av ArgN.fits := by
  intro H enc fuel x cs h
  obtain ⟨hl, hget⟩ := rd_field (hI := hI) Tryz.underlying46 h
  rw [cellOf46] at hl
  match cs, hl with
  | [c0, c1, c2, c3], _ =>
    obtain ⟨a, _, hra⟩ := hget 0 _ rfl 0 1 rfl cellOf4 (rd_bool (hI := hI) Tryz.underlying4)
    obtain ⟨b, _, hrb⟩ := hget 1 _ rfl 1 1 rfl cellOf3 (rd_int (hI := hI) Tryz.underlying3)
    obtain ⟨c, _, hrc⟩ := hget 2 _ rfl 2 1 rfl cellOf3 (rd_int (hI := hI) Tryz.underlying3)
    obtain ⟨d, hd, hrd⟩ := hget 3 _ rfl 3 1 rfl cellOf36 (rd_slice (hI := hI) (sz := 5) Tryz.underlying36 cellOf24 (by omega) (fun q => ⟨rfl, rfl⟩) rd_val)
    exact ⟨⟨a, b, c, d⟩, hd, RelCells.pieces (n := 1) hra (RelCells.pieces (n := 1) hrb (RelCells.pieces (n := 1) hrc hrd))⟩
theorem rd_args {W : World} {hI : Inv W} : Rd Tryz.prog W hI 40 (fun l : List ArgN => argsS l .shared) (fun l => l.length ≤ maxLen ∧ ∀ a, a ∈ l → a.fits) :=
  rd_slice (hI := hI) (sz := 4) Tryz.underlying40 cellOf46 (by omega) (fun q => ⟨rfl, rfl⟩) rd_argN
theorem rd_row {P : Program} {W : World} {hI : Inv W} {t : TypeId} {α : Type} {av : α → AV} {ok : α → Prop} (hrd : Rd P W hI t av ok) {H : Type} {enc : TypeId × Value → H} {cs : Array Value} {d : DataW H} {ps : List MemPlace} (h : DataW.Trod enc P W 0 (fun _ => true) true t (.agg cs) d ps)
    (hone : ∀ a, ∃ xs, av a = .agg xs) : ∃ a, ok a ∧ RelV (g0 W hI) (av a) (.agg cs) := by
  obtain ⟨fuel, hf⟩ := h
  obtain ⟨a, ha, hr⟩ := hrd enc fuel _ _ hf
  refine ⟨a, ha, ?_⟩
  obtain ⟨xs, e⟩ := hone a
  rw [e] at hr ⊢
  have hr : RelCells (g0 W hI) xs cs := by simpa [AV.cells, Value.cells] using hr
  exact .agg _ _ hr.1 hr.2
end Go.Proofs.YtifoddpbmlajfaaGreatDoor
