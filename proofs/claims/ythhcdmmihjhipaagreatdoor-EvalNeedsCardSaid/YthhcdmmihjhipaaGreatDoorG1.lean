/-
  A tree as it is read from memory: its depth is bounded by the reader's own rounds.
-/
import Derived.Test.YthhcdmmihjhipaaGreatDoorV1
import Derived.Test.YthhcdmmihjhipaaGreatDoorL1
import Derived.Shelf.Vars
import Derived.ChangeAt
namespace Go.Proofs.YthhcdmmihjhipaaGreatDoor
open Go Go.ChangeShapes Go.WideShapes Go.ChangeAt Go.RowKit

def RdK (k : Nat) (P : Program) (W : World) (hI : Inv W) (t : TypeId) {α : Type} (av : α → AV) (ok : α → Prop) : Prop :=
  ∀ {H : Type} (enc : TypeId × Value → H) (fuel : Nat) (x : DataW H × List MemPlace) (cs : List Value), fuel ≤ k → DataW.trod enc P W 0 (fun _ => true) true fuel t cs = some x → ∃ a, ok a ∧ RelCells (g0 W hI) (av a).cells cs.toArray
theorem RdK.of {k : Nat} {P : Program} {W : World} {hI : Inv W} {t : TypeId} {α : Type} {av : α → AV} {ok : α → Prop} (h : Rd P W hI t av ok) : RdK k P W hI t av ok := fun enc fuel x cs _ hx => h enc fuel x cs hx
theorem RdK.le {k j : Nat} {P : Program} {W : World} {hI : Inv W} {t : TypeId} {α : Type} {av : α → AV} {ok : α → Prop} (h : RdK k P W hI t av ok) (hj : j ≤ k) : RdK j P W hI t av ok := fun enc fuel x cs hf hx => h enc fuel x cs (by omega) hx
theorem rdK_slice {k : Nat} {P : Program} {W : World} {hI : Inv W} {t e : TypeId} {sz : Nat} {α : Type} {av : α → AV} {ok : α → Prop} (hu : P.underlying t = some (.slice e)) (hsz : P.cellsOf e = sz) (hpos : 0 < sz) (hrow : ∀ a, (av a).row sz) (he : RdK k P W hI e av ok) :
    RdK (k + 1) P W hI t (fun l : List α => .slice sz (l.map av) .shared) (fun l => l.length ≤ maxLen ∧ ∀ a, a ∈ l → ok a) := by
  intro H enc fuel x cs hfu h
  rcases DataW.trod_slice hu h with ⟨rfl, _⟩ | ⟨a, len, cap, elems, rest, n, hfn, rfl, _, _, hlc, hcap, hel, hget, hrest, _⟩
  · exact ⟨[], ⟨Nat.zero_le _, fun a ha => by simp at ha⟩, RelCells.one (.nilSlice _ _)⟩
  · rw [hsz] at hget hrest
    by_cases hc0 : cap = 0
    · have hl0 : len = 0 := by omega
      subst hc0; subst hl0
      exact ⟨[], ⟨Nat.zero_le _, fun a ha => by simp at ha⟩, RelCells.one (.voidSlice _ _)⟩
    · -- some cell lies there: the address is plain
      obtain ⟨b, off, spot⟩ := a
      have hspot : spot = none := by
        rcases Nat.eq_zero_or_pos len with h0 | h0
        · obtain ⟨hr1, hr2⟩ := hrest rfl
          have hr := hr2 0 (by omega)
          rw [List.getElem?_eq_getElem (by omega : 0 < rest.length)] at hr
          simp only [Option.bind_eq_some_iff] at hr
          obtain ⟨c0, hc0', _⟩ := hr
          obtain ⟨_, hcl⟩ := cells_get hc0'
          obtain ⟨v, _, hv⟩ := hcl 0 hpos
          subst h0
          simp only [Nat.zero_add, Nat.zero_mul] at hv
          have := World.cell?_spot hv
          simpa [Addr.add] using this
        · have hr := hget 0 h0
          rw [List.getElem?_eq_getElem (by omega : 0 < elems.length)] at hr
          simp only [Option.bind_eq_some_iff] at hr
          obtain ⟨c0, hc0', _⟩ := hr
          obtain ⟨_, hcl⟩ := cells_get hc0'
          obtain ⟨v, _, hv⟩ := hcl 0 hpos
          simp only [Nat.zero_mul] at hv
          have := World.cell?_spot hv
          simpa [Addr.add] using this
      subst hspot
      have key : ∀ i : Fin len, ∃ a, ok a ∧ ∀ j c, (av a).cells[j]? = some c → ∃ v, W.cell? ⟨b, off + (i.1 * sz + j), none⟩ = some v ∧ RelV (g0 W hI) c v := by
        intro i
        have hr := hget i.1 i.2
        rw [List.getElem?_eq_getElem (by omega : i.1 < elems.length)] at hr
        simp only [Option.bind_eq_some_iff] at hr
        obtain ⟨ci, hci, hti⟩ := hr
        obtain ⟨a, ha, hrel⟩ := he enc n _ ci (by omega) hti
        obtain ⟨hcil, hcl⟩ := cells_get hci
        refine ⟨a, ha, fun j c hc => ?_⟩
        obtain ⟨v, hv, hrv⟩ := hrel.at hc
        have hj : j < sz := by have := (List.getElem?_eq_some_iff.1 hc).1; rw [(hrow a).1] at this; exact this
        obtain ⟨u, hu', hcu⟩ := hcl j hj
        have : u = v := by simpa [hu'] using hv
        subst this
        rw [Addr.add_off, Addr.add_off] at hcu
        rw [← Nat.add_assoc]
        exact ⟨u, hcu, hrv⟩
      classical
      let f : Fin len → α := fun i => (key i).choose
      have hf : ∀ i, ok (f i) ∧ ∀ j c, (av (f i)).cells[j]? = some c → ∃ v, W.cell? ⟨b, off + (i.1 * sz + j), none⟩ = some v ∧ RelV (g0 W hI) c v := fun i => (key i).choose_spec
      refine ⟨List.ofFn f, ⟨by simp; omega, fun a ha => ?_⟩, ?_⟩
      · obtain ⟨i, rfl⟩ := List.mem_ofFn.1 ha
        exact (hf i).1
      · have hlen : ((List.ofFn f).map av).length = len := by simp
        have := RelV.slice (g := g0 W hI) sz ((List.ofFn f).map av) .shared b off cap (fun i => (W.cell? ⟨b, off + i, none⟩).getD undef) (fun x hx => by
            obtain ⟨a, _, rfl⟩ := List.mem_map.1 hx; exact hrow a)
          (fun i hi => by
            rw [hlen] at hi
            have hq : i / sz < len := Nat.div_lt_of_lt_mul (by rw [Nat.mul_comm]; exact hi)
            have hm : i % sz < sz := Nat.mod_lt _ hpos
            have hcl := (hrow (f ⟨i / sz, hq⟩)).1
            obtain ⟨v, hv, _⟩ := (hf ⟨i / sz, hq⟩).2 (i % sz) _ (List.getElem?_eq_getElem (by omega))
            simp only at hv
            rw [show i / sz * sz + i % sz = i by rw [Nat.mul_comm]; exact Nat.div_add_mod _ _] at hv
            show W.cell? ⟨b, off + i, none⟩ = _
            rw [hv]; rfl)
          (fun i j x c hx hc => by
            have hi : i < len := by have := (List.getElem?_eq_some_iff.1 hx).1; omega
            have hx' : x = av (f ⟨i, hi⟩) := by simpa [hi] using hx.symm
            subst hx'
            obtain ⟨v, hv, hrv⟩ := (hf ⟨i, hi⟩).2 j c hc
            simp only at hv
            rw [hv]; exact hrv)
          (by rw [hlen]; exact hlc) hcap trivial
        rw [hlen] at this
        exact RelCells.one this
theorem rdK_field {k : Nat} {P : Program} {W : World} {hI : Inv W} {t : TypeId} {fs : Array Field} {H : Type} {enc : TypeId × Value → H} {fuel : Nat} {x : DataW H × List MemPlace} {cs : List Value} (hu : P.underlying t = some (.struct fs))
    (hfu : fuel ≤ k + 1) (h : DataW.trod enc P W 0 (fun _ => true) true fuel t cs = some x) : cs.length = P.cellsOf t ∧ ∀ (i : Nat) (f : Field), fs[i]? = some f → ∀ (o n : Nat), f.offset = o → P.cellsOf f.type = n → ∀ {α : Type} {av : α → AV} {ok : α → Prop}, RdK k P W hI f.type av ok → ∃ a, ok a ∧ RelCells (g0 W hI) (av a).cells ((cs.drop o).take n).toArray := by
  obtain ⟨xs, n, hfn, _, hl, hxl, hget⟩ := DataW.trod_struct hu h
  refine ⟨hl, fun i f hf o m ho hm α av ok hrd => ?_⟩
  subst ho; subst hm
  have hi : i < xs.length := by rw [hxl]; exact (Array.getElem?_eq_some_iff.1 hf).1
  have := hget i f hf
  rw [List.getElem?_eq_getElem hi] at this
  exact hrd enc n _ _ (by omega) this

theorem cellOf3 : Tryz.prog.cellsOf 3 = 1 := by kernel_rfl
theorem cellOf4 : Tryz.prog.cellsOf 4 = 1 := by kernel_rfl
theorem cellOf9 : Tryz.prog.cellsOf 9 = 1 := by kernel_rfl
theorem cellOf22 : Tryz.prog.cellsOf 22 = 1 := by kernel_rfl
theorem cellOf24 : Tryz.prog.cellsOf 24 = 4 := by kernel_rfl
theorem cellOf25 : Tryz.prog.cellsOf 25 = 1 := by kernel_rfl
theorem cellOf27 : Tryz.prog.cellsOf 27 = 14 := by kernel_rfl
set_option maxRecDepth 100000 in
theorem rd_pt {W : World} {hI : Inv W} : Rd Tryz.prog W hI 24 Pt.av (fun _ => True) := by
  intro H enc fuel x cs h
  obtain ⟨hl, hget⟩ := rd_field (hI := hI) Tryz.underlying24 h
  rw [cellOf24] at hl
  match cs, hl with
  | [c0, c1, c2, c3], _ =>
    obtain ⟨a, _, hra⟩ := hget 0 _ rfl 0 1 rfl cellOf3 (rd_int (hI := hI) Tryz.underlying3)
    obtain ⟨b, _, hrb⟩ := hget 1 _ rfl 1 1 rfl cellOf3 (rd_int (hI := hI) Tryz.underlying3)
    obtain ⟨c, _, hrc⟩ := hget 2 _ rfl 2 1 rfl cellOf4 (rd_bool (hI := hI) Tryz.underlying4)
    obtain ⟨d, _, hrd⟩ := hget 3 _ rfl 3 1 rfl cellOf4 (rd_bool (hI := hI) Tryz.underlying4)
    exact ⟨⟨a, b, c, d⟩, trivial, RelCells.pieces (n := 1) hra (RelCells.pieces (n := 1) hrb (RelCells.pieces (n := 1) hrc hrd))⟩
set_option maxRecDepth 100000 in
theorem rdK_ex {W : World} {hI : Inv W} : ∀ k, RdK k Tryz.prog W hI 27 Ex.av Ex.fits := by
  intro k
  induction k with
  | zero =>
    intro H enc fuel x cs hf h
    obtain ⟨_, n, e, _⟩ := DataW.trod_struct Tryz.underlying27 h
    omega
  | succ k ih =>
    intro H enc fuel x cs hf h
    obtain ⟨hl, hget⟩ := rdK_field (hI := hI) (k := k) Tryz.underlying27 hf h
    rw [cellOf27] at hl
    have h25 : RdK k Tryz.prog W hI 25 (fun l : List Ex => AV.slice 14 (l.map Ex.av) .shared) (fun l => l.length ≤ maxLen ∧ ∀ a, a ∈ l → a.fits) := RdK.le (rdK_slice (k := k) (hI := hI) (sz := 14) Tryz.underlying25 cellOf27 (by omega) (fun e => ⟨rfl, rfl⟩) ih) (Nat.le_succ k)
    match cs, hl with
    | [c0, c1, c2, c3, c4, c5, c6, c7, c8, c9, c10, c11, c12, c13], _ =>
      obtain ⟨a, _, h0⟩ := hget 0 _ rfl 0 1 rfl cellOf3 (RdK.of (rd_int (hI := hI) Tryz.underlying3))
      obtain ⟨b, _, h1⟩ := hget 1 _ rfl 1 1 rfl cellOf22 (RdK.of (rd_int (hI := hI) Tryz.underlying22))
      obtain ⟨s, hs, h2⟩ := hget 2 _ rfl 2 1 rfl cellOf9 (RdK.of (rd_string (hI := hI) Tryz.underlying9))
      obtain ⟨i, _, h3⟩ := hget 3 _ rfl 3 1 rfl cellOf4 (RdK.of (rd_bool (hI := hI) Tryz.underlying4))
      obtain ⟨f, _, h4⟩ := hget 4 _ rfl 4 1 rfl cellOf3 (RdK.of (rd_int (hI := hI) Tryz.underlying3))
      obtain ⟨p, _, h5⟩ := hget 5 _ rfl 5 4 rfl cellOf24 (RdK.of rd_pt)
      obtain ⟨q, _, h6⟩ := hget 6 _ rfl 9 4 rfl cellOf24 (RdK.of rd_pt)
      obtain ⟨ks, hk, h7⟩ := hget 7 _ rfl 13 1 rfl cellOf25 h25
      refine ⟨.node a b s i f p q ks, ⟨hs, hk.1, fitsL_of hk.2⟩, ?_⟩
      rw [Ex.av_node]
      exact RelCells.pieces (n := 1) h0 (RelCells.pieces (n := 1) h1 (RelCells.pieces (n := 1) h2 (RelCells.pieces (n := 1) h3 (RelCells.pieces (n := 1) h4 (RelCells.pieces (n := 4) h5 (RelCells.pieces (n := 4) h6 h7))))))
theorem rd_ex {W : World} {hI : Inv W} : Rd Tryz.prog W hI 27 Ex.av Ex.fits := fun enc fuel x cs h => rdK_ex fuel enc fuel x cs (Nat.le_refl _) h
theorem rd_row {P : Program} {W : World} {hI : Inv W} {t : TypeId} {α : Type} {av : α → AV} {ok : α → Prop} (hrd : Rd P W hI t av ok) {H : Type} {enc : TypeId × Value → H} {cs : Array Value} {d : DataW H} {ps : List MemPlace} (h : DataW.Trod enc P W 0 (fun _ => true) true t (.agg cs) d ps)
    (hone : ∀ a, ∃ xs, av a = .agg xs) : ∃ a, ok a ∧ RelV (g0 W hI) (av a) (.agg cs) := by
  obtain ⟨fuel, hf⟩ := h
  obtain ⟨a, ha, hr⟩ := hrd enc fuel _ _ hf
  refine ⟨a, ha, ?_⟩
  obtain ⟨xs, e⟩ := hone a
  rw [e] at hr ⊢
  have hr : RelCells (g0 W hI) xs cs := by simpa [AV.cells, Value.cells] using hr
  exact .agg _ _ hr.1 hr.2
end Go.Proofs.YthhcdmmihjhipaaGreatDoor

namespace Go.Proofs.YthhcdmmihjhipaaGreatDoor
open Go Go.ChangeShapes Go.WideShapes Go.ChangeAt Go.RowKit

theorem Tryz.own : ownKnob Tryz.prog.godebug = none := by kernel_rfl
theorem Tryz.laidOut : laidOutB Tryz.prog = true := by kernel_rfl
def laidL : List (String × DataW Unit) := Rows.evalNeedsRow.laid
theorem laid_none : (laidL.filter fun x => x.2.handleName?.isSome) = [] := by kernel_rfl
theorem laid_met {W : World} (h : laidMetH Tryz.prog laidL W) : laidMet Tryz.prog laidL W := by
  unfold laidMetH at h
  rw [laid_none] at h
  exact h
theorem trod_held {P : Program} {W : World} {sp : Nat → Bool} {t : TypeId} {ms : Array (String × TypeId)} (ht : P.underlying t = some (.interface ms)) {n : Nat} {cs : List Value} {nm : String} {d : DataW Unit} {pe : List MemPlace}
    (h : DataW.trod (fun _ => ()) P W 0 sp false n t cs = some (.iface nm d, pe)) : ∃ u v, cs = [.iface u v] := by
  cases n with
  | zero => simp [DataW.trod] at h
  | succ n =>
    match cs, h with
    | [], h => simp [DataW.trod, ht] at h
    | [E], h =>
      cases E with
      | nilIface => simp [DataW.trod, ht] at h
      | iface u v => exact ⟨u, v, rfl⟩
      | _ => simp [DataW.trod, ht] at h
    | _ :: _ :: _, h => simp [DataW.trod, ht] at h
theorem iface_cell {W : World} {n : Nat} (h : ∃ fuel p vs T fz, W.heap[n]? = some (.cells vs T fz) ∧ DataW.trod (fun _ => ()) Tryz.prog W 0 (fun _ => true) false fuel 155 vs.toList = some p ∧ ∃ nm d, p.1 = .iface nm d) : ∃ te pe, W.cell? ⟨n, 0, none⟩ = some (.iface te pe) := by
  obtain ⟨fuel, ⟨d0, pe⟩, vs, T, fz, h1, h2, nm, d, rfl⟩ := h
  obtain ⟨u, v, hc⟩ := trod_held Tryz.underlying155 h2
  refine ⟨u, v, ?_⟩
  unfold World.cell?
  rw [h1]
  have : vs = #[.iface u v] := by rw [← Array.toList_inj]; exact hc
  rw [this]; rfl
theorem max_glob : 7 < Tryz.prog.globals.size := of_decide_eq_true (by kernel_rfl)
theorem max_row : ((begin Tryz.prog (fun _ _ => 0) default).world.heap[7]?).bind Obj.row? = some (#[.int .i64 0], 3) := by kernel_rfl
theorem max_build : Tryz.prog.buildable 3 = true := by kernel_rfl
theorem max_types : Tryz.prog.cellTypes Tryz.prog.depth 3 = some [3] := by kernel_rfl
theorem max_cell {W : World} (hs : W.ShapedOpen Tryz.prog) : ∃ m, W.cell? ⟨7, 0, none⟩ = some (.int .i64 m) := cell_of_shapedOpen_int hs max_glob max_row rfl max_build max_types Tryz.underlying3
theorem pow_is : flatV 4 Rows.laid_internal_strconv_uint64pow10 = some (Lib.pow10Tab.map fun z => Value.int .u64 z) := by kernel_rfl
def Holds (W : World) (n : Nat) (d : DataW Unit) : Prop := ∀ xs, flatV 4 d = some xs → ∃ T fz, W.heap[n]? = some (.cells xs.toArray T fz)
set_option maxRecDepth 1000000 in
theorem some0 : (flatV 4 Rows.laid_math_bits_deBruijn64tab).isSome = true := by kernel_rfl
theorem Inv_of {W : World} (hs : W.ShapedOpen Tryz.prog) (hL : laidMetH Tryz.prog laidL W) : Inv W := by
  obtain ⟨ps, h, _, _⟩ := laid_met hL
  have p0 : Holds W 0 Rows.laid_tabard_locale_names := fun xs hx => (laid_plain h (b := 0) (by kernel_rfl) (t := 66) (by kernel_rfl) 4 (by kernel_rfl) hx).1
  obtain ⟨_, _, h⟩ := laid_cons h (b := 0) (by kernel_rfl) (t := 66) (by kernel_rfl)
  have p1 : Holds W 1 Rows.laid_tabard_locale_signs := fun xs hx => (laid_plain h (b := 1) (by kernel_rfl) (t := 68) (by kernel_rfl) 4 (by kernel_rfl) hx).1
  obtain ⟨_, _, h⟩ := laid_cons h (b := 1) (by kernel_rfl) (t := 68) (by kernel_rfl)
  obtain ⟨⟨f3, q3, v3, T3, z3, a3, b3⟩, _, h⟩ := laid_cons h (b := 3) (by kernel_rfl) (t := 155) (by kernel_rfl)
  obtain ⟨⟨f4, q4, v4, T4, z4, a4, b4⟩, _, h⟩ := laid_cons h (b := 4) (by kernel_rfl) (t := 155) (by kernel_rfl)
  have p10 : Holds W 10 Rows.laid_internal_strconv_uint64pow10 := fun xs hx => (laid_plain h (b := 10) (by kernel_rfl) (t := 430) (by kernel_rfl) 4 (by kernel_rfl) hx).1
  obtain ⟨_, _, h⟩ := laid_cons h (b := 10) (by kernel_rfl) (t := 430) (by kernel_rfl)
  have p11 : Holds W 11 Rows.laid_math_bits_deBruijn32tab := fun xs hx => (laid_plain h (b := 11) (by kernel_rfl) (t := 489) (by kernel_rfl) 4 (by kernel_rfl) hx).1
  obtain ⟨_, _, h⟩ := laid_cons h (b := 11) (by kernel_rfl) (t := 489) (by kernel_rfl)
  have p12 : Holds W 12 Rows.laid_math_bits_deBruijn64tab := fun xs hx => (laid_plain h (b := 12) (by kernel_rfl) (t := 490) (by kernel_rfl) 4 (by kernel_rfl) hx).1
  obtain ⟨_, _, h⟩ := laid_cons h (b := 12) (by kernel_rfl) (t := 490) (by kernel_rfl)
  have p8 : Holds W 8 Rows.laid_unicode_utf8_first := fun xs hx => (laid_plain h (b := 8) (by kernel_rfl) (t := 413) (by kernel_rfl) 4 (by kernel_rfl) hx).1
  obtain ⟨_, _, h⟩ := laid_cons h (b := 8) (by kernel_rfl) (t := 413) (by kernel_rfl)
  have p9 : Holds W 9 Rows.laid_unicode_utf8_acceptRanges := fun xs hx => (laid_plain h (b := 9) (by kernel_rfl) (t := 416) (by kernel_rfl) 4 (by kernel_rfl) hx).1
  obtain ⟨_, _, h⟩ := laid_cons h (b := 9) (by kernel_rfl) (t := 416) (by kernel_rfl)
  have p2 : Holds W 2 Rows.laid_tabard_funcs_names := fun xs hx => (laid_plain h (b := 2) (by kernel_rfl) (t := 181) (by kernel_rfl) 4 (by kernel_rfl) hx).1
  exact {
    rows := fun n d hn xs hx => by
      simp only [laidT, List.mem_cons, Prod.mk.injEq, List.not_mem_nil, or_false] at hn
      rcases hn with ⟨rfl, rfl⟩ | ⟨rfl, rfl⟩ | ⟨rfl, rfl⟩ | ⟨rfl, rfl⟩ | ⟨rfl, rfl⟩ | ⟨rfl, rfl⟩ | ⟨rfl, rfl⟩ | ⟨rfl, rfl⟩
      · exact p0 xs hx
      · exact p1 xs hx
      · exact p2 xs hx
      · exact p8 xs hx
      · exact p9 xs hx
      · exact p10 xs hx
      · exact p11 xs hx
      · exact p12 xs hx
    tab := by
      obtain ⟨T, fz, e⟩ := p10 _ pow_is
      exact ⟨T, fz, e⟩
    errs := fun n hn => by
      rcases hn with rfl | rfl
      · exact iface_cell ⟨f3, _, v3, T3, z3, a3, b3, _, _, rfl⟩
      · exact iface_cell ⟨f4, _, v4, T4, z4, a4, b4, _, _, rfl⟩
    max := max_cell hs
    size := by
      obtain ⟨x9, h9⟩ := Option.isSome_iff_exists.1 some0
      obtain ⟨_, _, e⟩ := p12 x9 h9
      have := (Array.getElem?_eq_some_iff.1 e).1
      omega }

/-! ### a world that fits -/
noncomputable def low : Nat := (World.holding Tryz.prog default ⟨#[], #[], []⟩).heap.size
noncomputable def lay (h : Array Obj) (b : Nat) (vs : Array Value) : Array Obj := h.modify b fun
  | .cells _ t fz => .cells vs t fz
  | o => o
noncomputable def laidWorld (os : Os) : World :=
  let w0 := World.holding Tryz.prog os ⟨#[.cells #[.string ⟨#[118, 97, 108, 117, 101, 32, 111, 117, 116, 32, 111, 102, 32, 114, 97, 110, 103, 101]⟩] 342, .cells #[.string ⟨#[105, 110, 118, 97, 108, 105, 100, 32, 115, 121, 110, 116, 97, 120]⟩] 342], #[], []⟩
  let h := w0.heap
  let h := lay h 0 ((flatV 4 Rows.laid_tabard_locale_names).getD []).toArray
  let h := lay h 1 ((flatV 4 Rows.laid_tabard_locale_signs).getD []).toArray
  let h := lay h 10 ((flatV 4 Rows.laid_internal_strconv_uint64pow10).getD []).toArray
  let h := lay h 11 ((flatV 4 Rows.laid_math_bits_deBruijn32tab).getD []).toArray
  let h := lay h 12 ((flatV 4 Rows.laid_math_bits_deBruijn64tab).getD []).toArray
  let h := lay h 8 ((flatV 4 Rows.laid_unicode_utf8_first).getD []).toArray
  let h := lay h 9 ((flatV 4 Rows.laid_unicode_utf8_acceptRanges).getD []).toArray
  let h := lay h 2 ((flatV 4 Rows.laid_tabard_funcs_names).getD []).toArray
  let h := lay h 4 #[.iface 340 (.pointer (some ⟨low, 0, none⟩))]
  let h := lay h 3 #[.iface 340 (.pointer (some ⟨low + 1, 0, none⟩))]
  { w0 with heap := h }
set_option maxRecDepth 1000000 in
theorem laidWorld_met (os : Os) (args : Array Value) : laidMetH Tryz.prog laidL ((laidWorld os).forCall (fun _ _ => 0) ⟨#[], args, []⟩).memory :=
  laidMet_of_run' 8 (by kernel_rfl) (by kernel_rfl)

end Go.Proofs.YthhcdmmihjhipaaGreatDoor
