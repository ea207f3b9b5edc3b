/-
  The lift, for every seat, without the evaluator's frame: a row with listed variables: the walk may lean on the shape of memory; what plain variables hold, as cells.
-/
import Derived.Test.YtlhpnccdfgjifaaGreatDoorInk
import Derived.Handed
import Derived.LaidLaws
import Derived.OpenShut
import Derived.Shelf.Vars
import Derived.ChangeAt
import Derived.Lay
namespace Go.Proofs.YtlhpnccdfgjifaaGreatDoor
open Go Go.RowKit
variable {H : Type} {enc : TypeId × Value → H}

theorem lift_and {a : Assume} {C : Checked} {os : Os} {f : FuncId} {fn : Func} {s : ChangeSpec} {conds : List PathCond} {apart fresh handsOn again : Bool} {X : World → Array Value → Prop}
    (hX : ∀ (w w' : World) (args : Array Value), w.heap = w'.heap → X w args → X w' args)
    (own : ownKnob C.prog.godebug = none) (started : os.Started) (noInit : C.prog.inits.idxOf? f = none) (hfn : C.prog.funcs[f]? = some fn)
    (witness : ∃ (w : World) (tape : Tape) (i : Input), w.os = os ∧ (w.forCall tape i).Shaped C.prog ∧ i.vars = [] ∧ Input.okWide C.prog (w.forCall tape i) .any w.heap.size f i ∧
      ((s.pre enc C.prog fn conds apart (w.forCall tape i).memory i.args ∧ X (w.forCall tape i).memory i.args) ∧ sizedMet enc C.prog fn (OpenSpec.ofChange s) apart (w.forCall tape i).memory i.args) ∧ a.holds C.prog (lone (Frame.enter C.prog f i.args .normal) [] (w.forCall tape i)))
    (contract : ∀ (W : World) (base : Nat) (args : Array Value) (ds gs : List (DataW H)) (before : List MemPlace), W.ShapedOpen C.prog →
      (∀ (j : Nat) t v, fn.params[j]? = some t → args[j]? = some v → Value.okWide C.prog W .any base t v) →
      DataW.Whole enc C.prog fn.params.toList s.vars apart W args.toList ds gs before →
      conds.all (PathCond.test C.prog ⟨fn.params.toList, ds, s.plain.varTypes C.prog, gs⟩) = true →
      (DataW.weightsEach C.prog (fn.params.toList ++ s.plain.varTypes C.prog) (ds ++ gs)).all (· ≤ reachBytes) = true → X W args →
      Calls C.prog f args W fun e W' => ∃ v, e = .returned v ∧ s.post enc C.prog fn apart fresh handsOn again W args v W') :
    ReturnsInHanded a C os f .any (fun w args => (s.pre enc C.prog fn conds apart w args ∧ X w args) ∧ sizedMet enc C.prog fn (OpenSpec.ofChange s) apart w args) (s.post enc C.prog fn apart fresh handsOn again) := by
  refine returnsInHanded_of_calls own started noInit witness ?_
  intro w tape i _ hsh _ hok hpre _
  obtain ⟨_, _, _, fn', hfn', _, _, _, _, hval⟩ := hok
  have e : fn' = fn := Option.some.inj (hfn'.symm.trans hfn)
  subst e
  obtain ⟨⟨⟨ds, gs, before, hw, hc⟩, hx⟩, hz⟩ := hpre
  have hw' := DataW.Whole.of_heap (w' := w.forCall tape i) (by rfl) hw
  refine (contract (w.forCall tape i) w.heap.size i.args ds gs before hsh hval hw' hc (hz.weights hw) (hX _ _ _ (by rfl) hx)).mono fun e W' ⟨v, he, hp⟩ => ?_
  subst he
  exact ChangeSpec.post_blind hp

/-! ### plain variables as data -/
def contigB (P : Program) : List Field → Nat → Option Nat
  | [], o => some o
  | f :: r, o => if f.offset = o then contigB P r (o + P.cellsOf f.type) else none
def plainT (P : Program) : Nat → TypeId → Bool
  | 0, _ => false
  | n + 1, t => match P.underlying t with
    | some (.int _) | some .string | some .bool => true
    | some (.array N e) => plainT P n e && Nat.beq (P.cellsOf t) (N * P.cellsOf e)
    | some (.struct fs) => fs.toList.all (fun f => plainT P n f.type) && (match contigB P fs.toList 0 with | some k => Nat.beq k (P.cellsOf t) | none => false)
    | _ => false

theorem cells_two {xs ys cs : List Value} {n : Nat} (h1 : cs.take n = xs) (h2 : cs.drop n = ys) : cs = xs ++ ys := by rw [← h1, ← h2, List.take_append_drop]
variable {P : Program} {W : World}
theorem flat_array {n m e k : Nat} {cs : List Value} {fl : DataW Unit → Option (List Value)} (hp : P.cellsOf e = k)
    (ih : ∀ cs d p, DataW.trod (fun _ => ()) P W 0 (fun _ => true) false m e cs = some (d, p) → ∀ xs, fl d = some xs → cs = xs) :
    ∀ (l : List (DataW Unit × List MemPlace)) (i : Nat), i + l.length = n → cs.length = n * k → (∀ j, j < l.length → DataW.trod (fun _ => ()) P W 0 (fun _ => true) false m e ((cs.drop ((i + j) * k)).take k) = l[j]?) →
      ∀ xs, (l.map (·.1)).foldr (fun d r => match fl d, r with | some x, some y => some (x ++ y) | _, _ => none) (some []) = some xs → cs.drop (i * k) = xs
  | [], i, hi, hl, _, xs, hx => by
    simp at hx hi; subst hx; subst hi
    exact List.length_eq_zero_iff.1 (by simp [hl])
  | a :: l, i, hi, hl, hg, xs, hx => by
    simp only [List.map_cons, List.foldr_cons] at hx
    split at hx
    · rename_i x y hx1 hx2
      cases hx
      simp only [List.length_cons] at hi
      have h0 := hg 0 (by simp)
      simp only [Nat.add_zero, List.getElem?_cons_zero] at h0
      have r1 := ih _ _ _ h0 _ hx1
      have r2 := flat_array (n := n) (m := m) (e := e) (k := k) (cs := cs) hp ih l (i + 1) (by omega) hl (fun j hj => by
        have := hg (j + 1) (by simp; omega)
        simp only [List.getElem?_cons_succ] at this
        rw [← this]
        congr 4; omega) y hx2
      refine cells_two (n := k) r1 ?_
      rw [List.drop_drop]
      rw [show i * k + k = (i + 1) * k by rw [Nat.add_mul, Nat.one_mul]]
      exact r2
    · cases hx
theorem flat_fields {m : Nat} {cs : List Value} {fl : DataW Unit → Option (List Value)} :
    ∀ (fs : List Field) (l : List (DataW Unit × List MemPlace)) (o : Nat), fs.length = l.length → contigB P fs o = some cs.length →
      (∀ f, f ∈ fs → ∀ cs d p, DataW.trod (fun _ => ()) P W 0 (fun _ => true) false m f.type cs = some (d, p) → ∀ xs, fl d = some xs → cs = xs) →
      (∀ (j : Nat) (f : Field), fs[j]? = some f → DataW.trod (fun _ => ()) P W 0 (fun _ => true) false m f.type ((cs.drop f.offset).take (P.cellsOf f.type)) = l[j]?) →
      ∀ xs, (l.map (·.1)).foldr (fun d r => match fl d, r with | some x, some y => some (x ++ y) | _, _ => none) (some []) = some xs → cs.drop o = xs
  | [], l, o, hl, hc, _, _, xs, hx => by
    have hl' : l = [] := List.length_eq_zero_iff.1 hl.symm
    subst hl'
    simp at hx; subst hx
    have hc : o = cs.length := Option.some.inj hc
    exact List.length_eq_zero_iff.1 (by simp [hc])
  | f :: fs, [], o, hl, _, _, _, xs, hx => by simp at hl
  | f :: fs, a :: l, o, hl, hc, ih, hg, xs, hx => by
    unfold contigB at hc
    split at hc
    · rename_i ho
      simp only [List.map_cons, List.foldr_cons] at hx
      split at hx
      · rename_i x y hx1 hx2
        cases hx
        have h0 := hg 0 f rfl
        simp only [List.getElem?_cons_zero] at h0
        have r1 := ih f (by simp) _ _ _ h0 _ hx1
        have r2 := flat_fields (m := m) (cs := cs) fs l (o + P.cellsOf f.type) (by simpa using hl) hc (fun f hf => ih f (by simp [hf])) (fun j f hf => by
          have := hg (j + 1) f (by simpa using hf)
          simpa using this) y hx2
        rw [ho] at r1
        refine cells_two (n := P.cellsOf f.type) r1 ?_
        rw [List.drop_drop]
        exact r2
      · cases hx
    · cases hc
theorem flat_of_trod : ∀ (n fuel : Nat) (t : TypeId) (cs : List Value) (d : DataW Unit) (p : List MemPlace), plainT P n t = true → DataW.trod (fun _ => ()) P W 0 (fun _ => true) false fuel t cs = some (d, p) → ∀ xs, flatV n d = some xs → cs = xs
  | 0, _, _, _, _, _, ht, _, _, _ => by cases ht
  | n + 1, fuel, t, cs, d, p, ht, h, xs, hx => by
    unfold plainT at ht
    split at ht
    · rename_i k hu
      obtain ⟨m, rfl, e, _⟩ := DataW.trod_int hu h
      cases e; cases hx
      rfl
    · rename_i hu
      obtain ⟨s, rfl, e, hs⟩ := DataW.trod_string hu h
      cases e; cases hx
      rfl
    · rename_i hu
      obtain ⟨b, rfl, e⟩ := DataW.trod_bool hu h
      cases e; cases hx
      rfl
    · rename_i N e hu
      simp only [Bool.and_eq_true] at ht
      obtain ⟨l, m, _, e1, hl, hn, hg⟩ := DataW.trod_array hu h
      cases e1
      have ht2 := Nat.eq_of_beq_eq_true ht.2
      have := flat_array (n := N) (m := m) (e := e) (k := P.cellsOf e) (cs := cs) (fl := flatV n) rfl (fun cs d p hd xs hxs => flat_of_trod n m e cs d p ht.1 hd xs hxs) l 0 (by omega) (by rw [hl, ht2]) (fun j hj => by
        rw [Nat.zero_add]; exact hg j (by omega)) xs hx
      simpa using this
    · rename_i fs hu
      simp only [Bool.and_eq_true] at ht
      obtain ⟨l, m, _, e1, hl, hn, hg⟩ := DataW.trod_struct hu h
      cases e1
      have hc := ht.2
      split at hc <;> first | (cases hc; done) | skip
      rename_i k hk
      have hk' := Nat.eq_of_beq_eq_true hc
      have := flat_fields (m := m) (cs := cs) (fl := flatV n) (P := P) (W := W) fs.toList l 0 (by simp [hn]) (by rw [hk, hl, hk']) (fun f hf cs d p hd xs hxs => flat_of_trod n m f.type cs d p (by
          have := List.all_eq_true.1 ht.1 f hf; exact this) hd xs hxs) (fun j f hf => hg j f (by simpa using hf)) xs hx
      simpa using this
    · cases ht

theorem laid_cons {n : String} {d : DataW Unit} {r : List (String × DataW Unit)} {ps : List MemPlace} (h : DataW.LaidVars P W ((n, d) :: r) ps) {b : Nat} (hb : P.globalNamed n = some b) {t : TypeId} (ht : (P.globals[b]?).map (·.type) = some t) :
    (∃ fuel p vs T fz, W.heap[b]? = some (.cells vs T fz) ∧ DataW.trod (fun _ => ()) P W 0 (fun _ => true) false fuel t vs.toList = some (d, p)) ∧ ∃ q, DataW.LaidVars P W r q := by
  obtain ⟨g', t', cs, fuel, p, q, h1, h2, h3, h4, h5, _⟩ := h
  cases hb.symm.trans h1
  cases ht.symm.trans h2
  refine ⟨?_, q, h5⟩
  unfold World.var? at h3
  rw [h1] at h3
  simp only [Option.bind_some] at h3
  split at h3
  · rename_i cs' T fz hh
    cases h3
    exact ⟨fuel, p, cs, T, fz, hh, h4⟩
  · cases h3
theorem laid_plain {n : String} {d : DataW Unit} {r : List (String × DataW Unit)} {ps : List MemPlace} (h : DataW.LaidVars P W ((n, d) :: r) ps) {b : Nat} (hb : P.globalNamed n = some b) {t : TypeId} (ht : (P.globals[b]?).map (·.type) = some t) (m : Nat) (hp : plainT P m t = true) {xs : List Value} (hx : flatV m d = some xs) :
    (∃ T fz, W.heap[b]? = some (.cells xs.toArray T fz)) ∧ ∃ q, DataW.LaidVars P W r q := by
  obtain ⟨⟨fuel, p, vs, T, fz, h1, h2⟩, k⟩ := laid_cons h hb ht
  have e : vs = xs.toArray := by rw [← flat_of_trod m fuel t vs.toList d p hp h2 xs hx]
  exact ⟨⟨T, fz, by rw [h1, e]⟩, k⟩
end Go.Proofs.YtlhpnccdfgjifaaGreatDoor

namespace Go.Proofs.YtlhpnccdfgjifaaGreatDoor
open Go Go.ChangeShapes Go.WideShapes Go.ChangeAt Go.RowKit

theorem Tryz.own : ownKnob Tryz.prog.godebug = none := by kernel_rfl
theorem Tryz.laidOut : laidOutB Tryz.prog = true := by kernel_rfl
def laidL : List (String × DataW Unit) := Rows.fileQuotesRow.laid
theorem laid_none : (laidL.filter fun x => x.2.handleName?.isSome) = [] := by kernel_rfl
theorem laid_met {W : World} (h : laidMetH Tryz.prog laidL W) : laidMet Tryz.prog laidL W := by
  unfold laidMetH at h
  rw [laid_none] at h
  exact h
theorem trod_held {P : Program} {W : World} {sp : Nat → Bool} {t : TypeId} {ms : Array (String × TypeId)} (ht : P.underlying t = some (.interface ms)) {n : Nat} {cs : List Value} {nm : String} {d : DataW Unit} {pe : List MemPlace}
    (h : DataW.trod (fun _ => ()) P W 0 sp false n t cs = some (.iface nm d, pe)) : ∃ u v, cs = [.iface u v] := by
  cases n with
  | zero => simp [DataW.trod] at h
  | succ n =>
    match cs, h with
    | [], h => simp [DataW.trod, ht] at h
    | [E], h =>
      cases E with
      | nilIface => simp [DataW.trod, ht] at h
      | iface u v => exact ⟨u, v, rfl⟩
      | _ => simp [DataW.trod, ht] at h
    | _ :: _ :: _, h => simp [DataW.trod, ht] at h
theorem iface_cell {W : World} {n : Nat} (h : ∃ fuel p vs T fz, W.heap[n]? = some (.cells vs T fz) ∧ DataW.trod (fun _ => ()) Tryz.prog W 0 (fun _ => true) false fuel 45 vs.toList = some p ∧ ∃ nm d, p.1 = .iface nm d) : ∃ te pe, W.cell? ⟨n, 0, none⟩ = some (.iface te pe) := by
  obtain ⟨fuel, ⟨d0, pe⟩, vs, T, fz, h1, h2, nm, d, rfl⟩ := h
  obtain ⟨u, v, hc⟩ := trod_held Tryz.underlying45 h2
  refine ⟨u, v, ?_⟩
  unfold World.cell?
  rw [h1]
  have : vs = #[.iface u v] := by rw [← Array.toList_inj]; exact hc
  rw [this]; rfl
theorem max_glob : 6 < Tryz.prog.globals.size := of_decide_eq_true (by kernel_rfl)
theorem max_row : ((begin Tryz.prog (fun _ _ => 0) default).world.heap[6]?).bind Obj.row? = some (#[.int .i64 0], 3) := by kernel_rfl
theorem max_build : Tryz.prog.buildable 3 = true := by kernel_rfl
theorem max_types : Tryz.prog.cellTypes Tryz.prog.depth 3 = some [3] := by kernel_rfl
theorem max_cell {W : World} (hs : W.ShapedOpen Tryz.prog) : ∃ m, W.cell? ⟨6, 0, none⟩ = some (.int .i64 m) := cell_of_shapedOpen_int hs max_glob max_row rfl max_build max_types Tryz.underlying3
theorem pow_is : flatV 4 Rows.laid_internal_strconv_uint64pow10 = some (Lib.pow10Tab.map fun z => Value.int .u64 z) := by kernel_rfl
def Holds (W : World) (n : Nat) (d : DataW Unit) : Prop := ∀ xs, flatV 4 d = some xs → ∃ T fz, W.heap[n]? = some (.cells xs.toArray T fz)
theorem last_row : ((begin Tryz.prog (fun _ _ => 0) default).world.heap[13]?).bind Obj.row? |>.isSome := by kernel_rfl
theorem last_glob : 13 < Tryz.prog.globals.size := of_decide_eq_true (by kernel_rfl)
theorem Inv_of {W : World} (hs : W.ShapedOpen Tryz.prog) (hL : laidMetH Tryz.prog laidL W) : Inv W := by
  obtain ⟨ps, h, _, _⟩ := laid_met hL
  have p10 : Holds W 10 Rows.laid_math_bits_deBruijn32tab := fun xs hx => (laid_plain h (b := 10) (by kernel_rfl) (t := 523) (by kernel_rfl) 4 (by kernel_rfl) hx).1
  obtain ⟨_, _, h⟩ := laid_cons h (b := 10) (by kernel_rfl) (t := 523) (by kernel_rfl)
  have p11 : Holds W 11 Rows.laid_math_bits_deBruijn64tab := fun xs hx => (laid_plain h (b := 11) (by kernel_rfl) (t := 524) (by kernel_rfl) 4 (by kernel_rfl) hx).1
  obtain ⟨_, _, h⟩ := laid_cons h (b := 11) (by kernel_rfl) (t := 524) (by kernel_rfl)
  have p8 : Holds W 8 Rows.laid_internal_strconv_uint64pow10 := fun xs hx => (laid_plain h (b := 8) (by kernel_rfl) (t := 412) (by kernel_rfl) 4 (by kernel_rfl) hx).1
  obtain ⟨_, _, h⟩ := laid_cons h (b := 8) (by kernel_rfl) (t := 412) (by kernel_rfl)
  have p5 : Holds W 5 Rows.laid_unicode_utf8_acceptRanges := fun xs hx => (laid_plain h (b := 5) (by kernel_rfl) (t := 304) (by kernel_rfl) 4 (by kernel_rfl) hx).1
  obtain ⟨_, _, h⟩ := laid_cons h (b := 5) (by kernel_rfl) (t := 304) (by kernel_rfl)
  obtain ⟨⟨f3, q3, v3, T3, z3, a3, b3⟩, _, h⟩ := laid_cons h (b := 3) (by kernel_rfl) (t := 45) (by kernel_rfl)
  obtain ⟨⟨f2, q2, v2, T2, z2, a2, b2⟩, _, h⟩ := laid_cons h (b := 2) (by kernel_rfl) (t := 45) (by kernel_rfl)
  have p0 : Holds W 0 Rows.laid_tabard_locale_names := fun xs hx => (laid_plain h (b := 0) (by kernel_rfl) (t := 183) (by kernel_rfl) 4 (by kernel_rfl) hx).1
  obtain ⟨_, _, h⟩ := laid_cons h (b := 0) (by kernel_rfl) (t := 183) (by kernel_rfl)
  have p1 : Holds W 1 Rows.laid_tabard_locale_signs := fun xs hx => (laid_plain h (b := 1) (by kernel_rfl) (t := 185) (by kernel_rfl) 4 (by kernel_rfl) hx).1
  obtain ⟨_, _, h⟩ := laid_cons h (b := 1) (by kernel_rfl) (t := 185) (by kernel_rfl)
  have p9 : Holds W 9 Rows.laid_tabard_funcs_names := fun xs hx => (laid_plain h (b := 9) (by kernel_rfl) (t := 451) (by kernel_rfl) 4 (by kernel_rfl) hx).1
  obtain ⟨_, _, h⟩ := laid_cons h (b := 9) (by kernel_rfl) (t := 451) (by kernel_rfl)
  obtain ⟨_, _, h⟩ := laid_cons h (b := 7) (by kernel_rfl) (t := 409) (by kernel_rfl)
  have p4 : Holds W 4 Rows.laid_unicode_utf8_first := fun xs hx => (laid_plain h (b := 4) (by kernel_rfl) (t := 301) (by kernel_rfl) 4 (by kernel_rfl) hx).1
  exact {
    rows := fun n d hn xs hx => by
      simp only [laidT, List.mem_cons, Prod.mk.injEq, List.not_mem_nil, or_false] at hn
      rcases hn with ⟨rfl, rfl⟩ | ⟨rfl, rfl⟩ | ⟨rfl, rfl⟩ | ⟨rfl, rfl⟩ | ⟨rfl, rfl⟩ | ⟨rfl, rfl⟩ | ⟨rfl, rfl⟩ | ⟨rfl, rfl⟩
      · exact p0 xs hx
      · exact p1 xs hx
      · exact p4 xs hx
      · exact p5 xs hx
      · exact p8 xs hx
      · exact p9 xs hx
      · exact p10 xs hx
      · exact p11 xs hx
    tab := by
      obtain ⟨T, fz, e⟩ := p8 _ pow_is
      exact ⟨T, fz, e⟩
    errs := fun n hn => by
      rcases hn with rfl | rfl
      · exact iface_cell ⟨f2, _, v2, T2, z2, a2, b2, _, _, rfl⟩
      · exact iface_cell ⟨f3, _, v3, T3, z3, a3, b3, _, _, rfl⟩
    max := max_cell hs
    size := by
      obtain ⟨⟨zero, t⟩, h0⟩ := Option.isSome_iff_exists.1 last_row
      obtain ⟨cs, hh, _⟩ := hs.1 13 zero t last_glob h0
      exact (Array.getElem?_eq_some_iff.1 hh).1 }

/-! ### a world that fits -/
noncomputable def laidWorld (os : Os) : World := World.laidAll Tryz.prog os laidL
set_option maxRecDepth 1000000 in
theorem laidWorld_met (os : Os) (args : Array Value) : laidMetH Tryz.prog laidL ((laidWorld os).forCall (fun _ _ => 0) ⟨#[], args, []⟩).memory := by
  unfold laidMetH
  rw [laid_none]
  exact laidMet_laidAll _ (by kernel_rfl) (by kernel_rfl)

end Go.Proofs.YtlhpnccdfgjifaaGreatDoor
