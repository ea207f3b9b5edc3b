import Derived.Test.YtfkeflcdadlmdaaGreatDoorEx
import Derived.Test.YtfkeflcdadlmdaaGreatDoorHfk
import Derived.Test.YtfkeflcdadlmdaaGreatDoorBkk
import Derived.Shelf.Vars
import Derived.Test.YtfkeflcdadlmdaaGreatDoorSrk
import Derived.ChangeAt
namespace Go.Proofs.YtfkeflcdadlmdaaGreatDoor
open Go Go.ChangeShapes Go.WideShapes Go.ChangeAt Go.RowKit

theorem Tryz.own : ownKnob Tryz.prog.godebug = none := by kernel_rfl
theorem Tryz.laidOut : laidOutB Tryz.prog = true := by kernel_rfl
def laidL : List (String × DataW Unit) := Rows.entryShowsRow.laid
theorem biI : (laidL.filter fun x => x.2.handleName?.isSome) = [] := by kernel_rfl
theorem laid_met {W : World} (h : laidMetH Tryz.prog laidL W) : laidMet Tryz.prog laidL W := by
 unfold laidMetH at h
 rw [biI] at h
 exact h
theorem bfH {P : Program} {W : World} {sp : Nat → Bool} {t : TypeId} {ms : Array (String × TypeId)} (ht : P.underlying t = some (.interface ms)) {n : Nat} {cs : List Value} {nm : String} {d : DataW Unit} {pe : List MemPlace}
  (h : DataW.trod (fun _ => ()) P W 0 sp false n t cs = some (.iface nm d, pe)) : ∃ u v, cs = [.iface u v] := by
 cases n with
 | zero => simp [DataW.trod] at h
 | succ n =>
  match cs, h with
  | [], h => simp [DataW.trod, ht] at h
  | [E], h =>
   cases E with
   | nilIface => simp [DataW.trod, ht] at h
   | iface u v => exact ⟨u, v, rfl⟩
   | _ => simp [DataW.trod, ht] at h
  | _ :: _ :: _, h => simp [DataW.trod, ht] at h
def someG (W : World) : Cc.G where
 base := W
 ng := ⟨0, fun _ => none, (fun _ _ h => by cases h), fun _ => True, (fun _ _ _ h => h)⟩
 bn _ := false
 nm _ := 0
 vs _ := 0
 gl b hb := absurd hb (Nat.not_lt_zero b)
 hinv := trivial
theorem lit_eq {g : Cc.G} {x : Cc.V} {v : Value} (hl : litB x = true) (h : Cc.RelV g x v) : v = aaV x := by
 cases x with
 | int k n => cases h; rfl
 | str s => cases h; rfl
 | _ => cases hl
theorem bjP {g : Cc.G} {cs : List Cc.V} {vs : Array Value} (hl : cs.all litB = true) (h : Cc.RelCells g cs vs) : vs = (cs.map aaV).toArray := by
 apply Array.ext
 ·simp [h.1]
 ·intro i h1 h2
  have hi : i < cs.length := by rw [h.1]; exact h1
  have := lit_eq (List.all_eq_true.1 hl _ (List.getElem_mem hi)) (h.2 i _ _ (List.getElem?_eq_getElem hi) (Array.getElem?_eq_getElem h1))
  simpa using this
set_option maxRecDepth 1000000 in
theorem fd0 : akR 4 Rows.laid_tabard_locale_names = some (Cc.ocs Cc.k0) := by kernel_rfl
set_option maxRecDepth 1000000 in
theorem fd1 : akR 4 Rows.laid_tabard_locale_signs = some (Cc.ocs Cc.k1) := by kernel_rfl
set_option maxRecDepth 1000000 in
theorem fd2 : akR 4 Rows.laid_unicode_utf8_first = some (Cc.ocs Cc.k2) := by kernel_rfl
set_option maxRecDepth 1000000 in
theorem fd3 : akR 4 Rows.laid_unicode_utf8_acceptRanges = some (Cc.ocs Cc.k3) := by kernel_rfl
set_option maxRecDepth 1000000 in
theorem fd4 : akR 4 Rows.laid_internal_strconv_uint64pow10 = some (Cc.ocs Cc.k4) := by kernel_rfl
set_option maxRecDepth 1000000 in
theorem fd8 : akR 4 Rows.laid_math_bits_deBruijn32tab = some (Cc.ocs Cc.k8) := by kernel_rfl
set_option maxRecDepth 1000000 in
theorem fd9 : akR 4 Rows.laid_math_bits_deBruijn64tab = some (Cc.ocs Cc.k9) := by kernel_rfl
def RowIs (W : World) (n : Nat) (k : Cc.O) : Prop := ∃ vs T fz, W.heap[n]? = some (.cells vs T fz) ∧ ∀ g, Cc.RelCells g (Cc.ocs k) vs
theorem RowIs.row {W : World} {n : Nat} {k : Cc.O} {d : DataW Unit} {xs : List Value} (h : RowIs W n k) (hl : (Cc.ocs k).all litB = true) (hf : agB 4 d = some ((Cc.ocs k).map aaV)) (hx : agB 4 d = some xs) : ∃ T fz, W.heap[n]? = some (.cells xs.toArray T fz) := by
 obtain ⟨vs, T, fz, h1, h2⟩ := h
 have e := bjP hl (h2 (someG W))
 rw [hf] at hx
 rw [← Option.some.inj hx]
 exact ⟨T, fz, by rw [h1, e]⟩
theorem apU {W : World} {n : Nat} (h : ∃ fuel p vs T fz, W.heap[n]? = some (.cells vs T fz) ∧ DataW.trod (fun _ => ()) Tryz.prog W 0 (fun _ => true) false fuel 161 vs.toList = some p ∧ ∃ nm d, p.1 = .iface nm d) : ∃ te pe, W.cell? ⟨n, 0, none⟩ = some (.iface te pe) := by
 obtain ⟨fuel, ⟨d0, pe⟩, vs, T, fz, h1, h2, nm, d, rfl⟩ := h
 obtain ⟨u, v, hc⟩ := bfH Tryz.underlying161 h2
 refine ⟨u, v, ?_⟩
 unfold World.cell?
 rw [h1]
 have : vs = #[.iface u v] := by rw [← Array.toList_inj]; exact hc
 rw [this]; rfl
theorem max_glob : 5 < Tryz.prog.globals.size := of_decide_eq_true (by kernel_rfl)
theorem max_row : ((begin Tryz.prog (fun _ _ => 0) default).world.heap[5]?).bind Obj.row? = some (#[.int .i64 0], 3) := by kernel_rfl
theorem bhV : Tryz.prog.buildable 3 = true := by kernel_rfl
theorem bhU : Tryz.prog.cellTypes Tryz.prog.depth 3 = some [3] := by kernel_rfl
theorem max_cell {W : World} (hs : W.ShapedOpen Tryz.prog) : ∃ m, W.cell? ⟨5, 0, none⟩ = some (.int .i64 m) := cell_of_shapedOpen_int hs max_glob max_row rfl bhV bhU Tryz.underlying3
theorem pow_is : (Lib.pow10Tab.map fun z => Value.int .u64 z) = (Cc.ocs Cc.k4).map aaV := by kernel_rfl
theorem Inv_of {W : World} (hs : W.ShapedOpen Tryz.prog) (hL : laidMetH Tryz.prog laidL W) : Inv W := by
 obtain ⟨ps, h, _, _⟩ := laid_met hL
 obtain ⟨p8, _, h⟩ := acR h (b := 8) (by kernel_rfl) (t := 283) (by kernel_rfl) 4 (by kernel_rfl) fd8
 obtain ⟨p9, _, h⟩ := acR h (b := 9) (by kernel_rfl) (t := 284) (by kernel_rfl) 4 (by kernel_rfl) fd9
 obtain ⟨p4, _, h⟩ := acR h (b := 4) (by kernel_rfl) (t := 251) (by kernel_rfl) 4 (by kernel_rfl) fd4
 obtain ⟨p3, _, h⟩ := acR h (b := 3) (by kernel_rfl) (t := 224) (by kernel_rfl) 4 (by kernel_rfl) fd3
 obtain ⟨⟨f7, q7, v7, T7, z7, a7, b7⟩, _, h⟩ := anF h (b := 7) (by kernel_rfl) (t := 161) (by kernel_rfl)
 obtain ⟨⟨f6, q6, v6, T6, z6, a6, b6⟩, _, h⟩ := anF h (b := 6) (by kernel_rfl) (t := 161) (by kernel_rfl)
 obtain ⟨p0, _, h⟩ := acR h (b := 0) (by kernel_rfl) (t := 106) (by kernel_rfl) 4 (by kernel_rfl) fd0
 obtain ⟨p1, _, h⟩ := acR h (b := 1) (by kernel_rfl) (t := 108) (by kernel_rfl) 4 (by kernel_rfl) fd1
 obtain ⟨p2, _, h⟩ := acR h (b := 2) (by kernel_rfl) (t := 221) (by kernel_rfl) 4 (by kernel_rfl) fd2
 exact {
   rows := fun n d hn xs hx => by
     simp only [anG, List.mem_cons, Prod.mk.injEq, List.not_mem_nil, or_false] at hn
     rcases hn with ⟨rfl, rfl⟩ | ⟨rfl, rfl⟩ | ⟨rfl, rfl⟩ | ⟨rfl, rfl⟩ | ⟨rfl, rfl⟩ | ⟨rfl, rfl⟩ | ⟨rfl, rfl⟩
     ·exact RowIs.row p0 (by kernel_rfl) fl0 hx
     ·exact RowIs.row p1 (by kernel_rfl) fl1 hx
     ·exact RowIs.row p2 (by kernel_rfl) fl2 hx
     ·exact RowIs.row p3 (by kernel_rfl) fl3 hx
     ·exact RowIs.row p4 (by kernel_rfl) fl4 hx
     ·exact RowIs.row p8 (by kernel_rfl) fl8 hx
     ·exact RowIs.row p9 (by kernel_rfl) fl9 hx
   tab := by
     obtain ⟨T, fz, e⟩ := RowIs.row p4 (by kernel_rfl) fl4 fl4
     exact ⟨T, fz, by rw [pow_is]; exact e⟩
   errs := fun n hn => by
     rcases hn with rfl | rfl
     ·exact apU ⟨f6, _, v6, T6, z6, a6, b6, _, _, rfl⟩
     ·exact apU ⟨f7, _, v7, T7, z7, a7, b7, _, _, rfl⟩
   max := max_cell hs
   size := by
     obtain ⟨_, _, _, e, _⟩ := p9
     have := (Array.getElem?_eq_some_iff.1 e).1
     omega }

/-! ### a world that fits -/
noncomputable def low : Nat := (World.holding Tryz.prog default ⟨#[], #[], []⟩).heap.size
noncomputable def lay (h : Array Obj) (b : Nat) (vs : Array Value) : Array Obj := h.modify b fun
 | .cells _ t fz => .cells vs t fz
 | o => o
noncomputable def auN (os : Os) : World :=
 let w0 := World.holding Tryz.prog os ⟨#[.cells #[.string ⟨#[118, 97, 108, 117, 101, 32, 111, 117, 116, 32, 111, 102, 32, 114, 97, 110, 103, 101]⟩] 278, .cells #[.string ⟨#[105, 110, 118, 97, 108, 105, 100, 32, 115, 121, 110, 116, 97, 120]⟩] 278], #[], []⟩
 let h := w0.heap
 let h := lay h 0 ((Cc.ocs Cc.k0).map aaV).toArray
 let h := lay h 1 ((Cc.ocs Cc.k1).map aaV).toArray
 let h := lay h 2 ((Cc.ocs Cc.k2).map aaV).toArray
 let h := lay h 3 ((Cc.ocs Cc.k3).map aaV).toArray
 let h := lay h 4 ((Cc.ocs Cc.k4).map aaV).toArray
 let h := lay h 8 ((Cc.ocs Cc.k8).map aaV).toArray
 let h := lay h 9 ((Cc.ocs Cc.k9).map aaV).toArray
 let h := lay h 7 #[.iface 276 (.pointer (some ⟨low, 0, none⟩))]
 let h := lay h 6 #[.iface 276 (.pointer (some ⟨low + 1, 0, none⟩))]
 { w0 with heap := h }
set_option maxRecDepth 1000000 in
theorem arU (os : Os) (args : Array Value) : laidMetH Tryz.prog laidL ((auN os).forCall (fun _ _ => 0) ⟨#[], args, []⟩).memory :=
 laidMet_of_run' 8 (by kernel_rfl) (by kernel_rfl)

theorem awH (H : Heap) : ACall Tryz.prog 8 [] H (fun x H' => x = .bool true ∧ H' = H) := bdV H
end Go.Proofs.YtfkeflcdadlmdaaGreatDoor
