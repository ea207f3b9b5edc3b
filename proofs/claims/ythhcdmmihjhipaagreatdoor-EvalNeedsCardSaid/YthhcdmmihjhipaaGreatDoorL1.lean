/-
  The frame, part 15: a call from outside: what its arguments read as, as data; what it leaves of them.
-/
import Derived.Test.YthhcdmmihjhipaaGreatDoorS4
import Derived.ProofKit
import Derived.SizedLaws
import Derived.OpenShut
import Derived.Test.YthhcdmmihjhipaaGreatDoorInk
import Derived.Handed
import Derived.LaidLaws
namespace Go.Proofs.YthhcdmmihjhipaaGreatDoor
open Go Go.RowKit

def g0 (W : World) (hI : Inv W) : G := ⟨W, fun b o => W.cell? ⟨b, o, none⟩, fun _ => none, 0, hI⟩
theorem sat0 (W : World) (hI : Inv W) : Sat (g0 W hI) Heap.empty W := {
  below := Below.refl _ _
  imm _ _ _ h := h
  box _ _ _ h := by cases h
  map _ _ h := by cases h
  raw _ _ h := by cases h
  own _ _ h := by cases h
  tok _ _ _ _ h := by cases h
  tokLt _ h := by cases h
  sep _ _ _ _ _ _ _ h := by cases h }
theorem law_calls {P : Program} {f : FuncId} {xs : List AV} {W : World} {hI : Inv W} {vs : List Value} (h : ∀ H, ACall P f xs H fun x H' => x = .bool true ∧ H' = H) (hv : RelVs (g0 W hI) xs vs) :
    Calls P f vs.toArray W fun e W' => e = .returned (.bool true) ∧ Below W.heap.size W W' :=
  (h Heap.empty (g0 W hI) vs W hv (sat0 W hI)).mono fun e W' ⟨v, he, g', x, H', hle, hr, hs, hx, _⟩ => by
    subst hx
    cases hr
    have := hs.below
    rw [hle.base] at this
    exact ⟨he, this⟩

def Rd (P : Program) (W : World) (hI : Inv W) (t : TypeId) {α : Type} (av : α → AV) (ok : α → Prop) : Prop :=
  ∀ {H : Type} (enc : TypeId × Value → H) (fuel : Nat) (x : DataW H × List MemPlace) (cs : List Value), DataW.trod enc P W 0 (fun _ => true) true fuel t cs = some x → ∃ a, ok a ∧ RelCells (g0 W hI) (av a).cells cs.toArray
theorem rd_int {P : Program} {W : World} {hI : Inv W} {t : TypeId} {k : IntKind} (hu : P.underlying t = some (.int k)) : Rd P W hI t (AV.int k) (fun n => (Lit.int k n).wf = true) := by
  intro H enc fuel x cs h
  obtain ⟨n, rfl, _, hw⟩ := DataW.trod_int hu h
  exact ⟨n, hw, RelCells.one (.int k n)⟩
theorem rd_bool {P : Program} {W : World} {hI : Inv W} {t : TypeId} (hu : P.underlying t = some .bool) : Rd P W hI t AV.bool (fun _ => True) := by
  intro H enc fuel x cs h
  obtain ⟨b, rfl, _⟩ := DataW.trod_bool hu h
  exact ⟨b, trivial, RelCells.one (.bool b)⟩
theorem rd_string {P : Program} {W : World} {hI : Inv W} {t : TypeId} (hu : P.underlying t = some .string) : Rd P W hI t AV.str (fun s => s.length ≤ maxLen) := by
  intro H enc fuel x cs h
  obtain ⟨s, rfl, _, hw⟩ := DataW.trod_string hu h
  have e : s = ⟨s.data.toList.toArray⟩ := by cases s; rfl
  have hw' : s.data.toList.length ≤ maxLen := by simpa using hw
  refine ⟨s.data.toList, hw', ?_⟩
  have := RelV.str (g := g0 W hI) s.data.toList hw'
  rw [← e] at this
  exact RelCells.one this
theorem cells_get {W : World} {a : Addr} {n : Nat} {cs : List Value} (h : W.cells? 0 a n = some cs) : cs.length = n ∧ ∀ i, i < n → ∃ v, cs[i]? = some v ∧ W.cell? (a.add i) = some v := by
  unfold World.cells? at h
  rw [if_pos (Nat.zero_le _)] at h
  have hl : cs.length = n := by simpa using mapM_some_length h
  refine ⟨hl, fun i hi => ?_⟩
  have := mapM_some_get h i i (by simp [hi])
  exact ⟨cs[i]'(by omega), List.getElem?_eq_getElem (by omega), by rw [this, List.getElem?_eq_getElem (by omega)]⟩
theorem RelCells.pieces {g : G} {xs ys : List AV} {cs : List Value} {n : Nat} (h1 : RelCells g xs (cs.take n).toArray) (h2 : RelCells g ys (cs.drop n).toArray) : RelCells g (xs ++ ys) cs.toArray := by
  have := h1.append h2
  simpa using this
theorem rd_field {P : Program} {W : World} {hI : Inv W} {t : TypeId} {fs : Array Field} {H : Type} {enc : TypeId × Value → H} {fuel : Nat} {x : DataW H × List MemPlace} {cs : List Value} (hu : P.underlying t = some (.struct fs))
    (h : DataW.trod enc P W 0 (fun _ => true) true fuel t cs = some x) : cs.length = P.cellsOf t ∧ ∀ (i : Nat) (f : Field), fs[i]? = some f → ∀ (o n : Nat), f.offset = o → P.cellsOf f.type = n → ∀ {α : Type} {av : α → AV} {ok : α → Prop}, Rd P W hI f.type av ok → ∃ a, ok a ∧ RelCells (g0 W hI) (av a).cells ((cs.drop o).take n).toArray := by
  obtain ⟨xs, n, _, _, hl, hxl, hget⟩ := DataW.trod_struct hu h
  refine ⟨hl, fun i f hf o m ho hm α av ok hrd => ?_⟩
  subst ho; subst hm
  have hi : i < xs.length := by rw [hxl]; exact (Array.getElem?_eq_some_iff.1 hf).1
  have := hget i f hf
  rw [List.getElem?_eq_getElem hi] at this
  exact hrd enc n _ _ this
theorem relvs_n {g : G} : RelVs g [] [] := ⟨rfl, fun i x v hx _ => by simp at hx⟩
theorem relvs_c {g : G} {x : AV} {v : Value} {xs : List AV} {vs : List Value} (h : RelV g x v) (k : RelVs g xs vs) : RelVs g (x :: xs) (v :: vs) := by
  refine ⟨by simp [k.1], fun i y u hy hu => ?_⟩
  cases i with
  | zero => simp at hy hu; subst hy; subst hu; exact h
  | succ i => simp at hy hu; exact k.2 i y u hy hu
end Go.Proofs.YthhcdmmihjhipaaGreatDoor

namespace Go.Proofs.YthhcdmmihjhipaaGreatDoor
open Go Go.RowKit
variable {H : Type} {enc : TypeId × Value → H}

theorem lift_and {a : Assume} {C : Checked} {os : Os} {f : FuncId} {fn : Func} {s : ChangeSpec} {conds : List PathCond} {apart fresh handsOn again : Bool} {X : World → Array Value → Prop}
    (hX : ∀ (w w' : World) (args : Array Value), w.heap = w'.heap → X w args → X w' args)
    (own : ownKnob C.prog.godebug = none) (started : os.Started) (noInit : C.prog.inits.idxOf? f = none) (hfn : C.prog.funcs[f]? = some fn)
    (witness : ∃ (w : World) (tape : Tape) (i : Input), w.os = os ∧ (w.forCall tape i).Shaped C.prog ∧ i.vars = [] ∧ Input.okWide C.prog (w.forCall tape i) .any w.heap.size f i ∧
      ((s.pre enc C.prog fn conds apart (w.forCall tape i).memory i.args ∧ X (w.forCall tape i).memory i.args) ∧ sizedMet enc C.prog fn (OpenSpec.ofChange s) apart (w.forCall tape i).memory i.args) ∧ a.holds C.prog (lone (Frame.enter C.prog f i.args .normal) [] (w.forCall tape i)))
    (contract : ∀ (W : World) (base : Nat) (args : Array Value) (ds gs : List (DataW H)) (before : List MemPlace), W.ShapedOpen C.prog →
      (∀ (j : Nat) t v, fn.params[j]? = some t → args[j]? = some v → Value.okWide C.prog W .any base t v) →
      DataW.Whole enc C.prog fn.params.toList s.vars apart W args.toList ds gs before →
      conds.all (PathCond.test C.prog ⟨fn.params.toList, ds, s.plain.varTypes C.prog, gs⟩) = true →
      (DataW.weightsEach C.prog (fn.params.toList ++ s.plain.varTypes C.prog) (ds ++ gs)).all (· ≤ reachBytes) = true → X W args →
      Calls C.prog f args W fun e W' => ∃ v, e = .returned v ∧ s.post enc C.prog fn apart fresh handsOn again W args v W') :
    ReturnsInHanded a C os f .any (fun w args => (s.pre enc C.prog fn conds apart w args ∧ X w args) ∧ sizedMet enc C.prog fn (OpenSpec.ofChange s) apart w args) (s.post enc C.prog fn apart fresh handsOn again) := by
  refine returnsInHanded_of_calls own started noInit witness ?_
  intro w tape i _ hsh _ hok hpre _
  obtain ⟨_, _, _, fn', hfn', _, _, _, _, hval⟩ := hok
  have e : fn' = fn := Option.some.inj (hfn'.symm.trans hfn)
  subst e
  obtain ⟨⟨⟨ds, gs, before, hw, hc⟩, hx⟩, hz⟩ := hpre
  have hw' := DataW.Whole.of_heap (w' := w.forCall tape i) (by rfl) hw
  refine (contract (w.forCall tape i) w.heap.size i.args ds gs before hsh hval hw' hc (hz.weights hw) (hX _ _ _ (by rfl) hx)).mono fun e W' ⟨v, he, hp⟩ => ?_
  subst he
  exact ChangeSpec.post_blind hp

/-! ### plain variables as data -/
def contigB (P : Program) : List Field → Nat → Option Nat
  | [], o => some o
  | f :: r, o => if f.offset = o then contigB P r (o + P.cellsOf f.type) else none
def plainT (P : Program) : Nat → TypeId → Bool
  | 0, _ => false
  | n + 1, t => match P.underlying t with
    | some (.int _) | some .string | some .bool => true
    | some (.array N e) => plainT P n e && Nat.beq (P.cellsOf t) (N * P.cellsOf e)
    | some (.struct fs) => fs.toList.all (fun f => plainT P n f.type) && (match contigB P fs.toList 0 with | some k => Nat.beq k (P.cellsOf t) | none => false)
    | _ => false

theorem cells_two {xs ys cs : List Value} {n : Nat} (h1 : cs.take n = xs) (h2 : cs.drop n = ys) : cs = xs ++ ys := by rw [← h1, ← h2, List.take_append_drop]
variable {P : Program} {W : World}
theorem flat_array {n m e k : Nat} {cs : List Value} {fl : DataW Unit → Option (List Value)} (hp : P.cellsOf e = k)
    (ih : ∀ cs d p, DataW.trod (fun _ => ()) P W 0 (fun _ => true) false m e cs = some (d, p) → ∀ xs, fl d = some xs → cs = xs) :
    ∀ (l : List (DataW Unit × List MemPlace)) (i : Nat), i + l.length = n → cs.length = n * k → (∀ j, j < l.length → DataW.trod (fun _ => ()) P W 0 (fun _ => true) false m e ((cs.drop ((i + j) * k)).take k) = l[j]?) →
      ∀ xs, (l.map (·.1)).foldr (fun d r => match fl d, r with | some x, some y => some (x ++ y) | _, _ => none) (some []) = some xs → cs.drop (i * k) = xs
  | [], i, hi, hl, _, xs, hx => by
    simp at hx hi; subst hx; subst hi
    exact List.length_eq_zero_iff.1 (by simp [hl])
  | a :: l, i, hi, hl, hg, xs, hx => by
    simp only [List.map_cons, List.foldr_cons] at hx
    split at hx
    · rename_i x y hx1 hx2
      cases hx
      simp only [List.length_cons] at hi
      have h0 := hg 0 (by simp)
      simp only [Nat.add_zero, List.getElem?_cons_zero] at h0
      have r1 := ih _ _ _ h0 _ hx1
      have r2 := flat_array (n := n) (m := m) (e := e) (k := k) (cs := cs) hp ih l (i + 1) (by omega) hl (fun j hj => by
        have := hg (j + 1) (by simp; omega)
        simp only [List.getElem?_cons_succ] at this
        rw [← this]
        congr 4; omega) y hx2
      refine cells_two (n := k) r1 ?_
      rw [List.drop_drop]
      rw [show i * k + k = (i + 1) * k by rw [Nat.add_mul, Nat.one_mul]]
      exact r2
    · cases hx
theorem flat_fields {m : Nat} {cs : List Value} {fl : DataW Unit → Option (List Value)} :
    ∀ (fs : List Field) (l : List (DataW Unit × List MemPlace)) (o : Nat), fs.length = l.length → contigB P fs o = some cs.length →
      (∀ f, f ∈ fs → ∀ cs d p, DataW.trod (fun _ => ()) P W 0 (fun _ => true) false m f.type cs = some (d, p) → ∀ xs, fl d = some xs → cs = xs) →
      (∀ (j : Nat) (f : Field), fs[j]? = some f → DataW.trod (fun _ => ()) P W 0 (fun _ => true) false m f.type ((cs.drop f.offset).take (P.cellsOf f.type)) = l[j]?) →
      ∀ xs, (l.map (·.1)).foldr (fun d r => match fl d, r with | some x, some y => some (x ++ y) | _, _ => none) (some []) = some xs → cs.drop o = xs
  | [], l, o, hl, hc, _, _, xs, hx => by
    have hl' : l = [] := List.length_eq_zero_iff.1 hl.symm
    subst hl'
    simp at hx; subst hx
    have hc : o = cs.length := Option.some.inj hc
    exact List.length_eq_zero_iff.1 (by simp [hc])
  | f :: fs, [], o, hl, _, _, _, xs, hx => by simp at hl
  | f :: fs, a :: l, o, hl, hc, ih, hg, xs, hx => by
    unfold contigB at hc
    split at hc
    · rename_i ho
      simp only [List.map_cons, List.foldr_cons] at hx
      split at hx
      · rename_i x y hx1 hx2
        cases hx
        have h0 := hg 0 f rfl
        simp only [List.getElem?_cons_zero] at h0
        have r1 := ih f (by simp) _ _ _ h0 _ hx1
        have r2 := flat_fields (m := m) (cs := cs) fs l (o + P.cellsOf f.type) (by simpa using hl) hc (fun f hf => ih f (by simp [hf])) (fun j f hf => by
          have := hg (j + 1) f (by simpa using hf)
          simpa using this) y hx2
        rw [ho] at r1
        refine cells_two (n := P.cellsOf f.type) r1 ?_
        rw [List.drop_drop]
        exact r2
      · cases hx
    · cases hc
theorem flat_of_trod : ∀ (n fuel : Nat) (t : TypeId) (cs : List Value) (d : DataW Unit) (p : List MemPlace), plainT P n t = true → DataW.trod (fun _ => ()) P W 0 (fun _ => true) false fuel t cs = some (d, p) → ∀ xs, flatV n d = some xs → cs = xs
  | 0, _, _, _, _, _, ht, _, _, _ => by cases ht
  | n + 1, fuel, t, cs, d, p, ht, h, xs, hx => by
    unfold plainT at ht
    split at ht
    · rename_i k hu
      obtain ⟨m, rfl, e, _⟩ := DataW.trod_int hu h
      cases e; cases hx
      rfl
    · rename_i hu
      obtain ⟨s, rfl, e, hs⟩ := DataW.trod_string hu h
      cases e; cases hx
      rfl
    · rename_i hu
      obtain ⟨b, rfl, e⟩ := DataW.trod_bool hu h
      cases e; cases hx
      rfl
    · rename_i N e hu
      simp only [Bool.and_eq_true] at ht
      obtain ⟨l, m, _, e1, hl, hn, hg⟩ := DataW.trod_array hu h
      cases e1
      have ht2 := Nat.eq_of_beq_eq_true ht.2
      have := flat_array (n := N) (m := m) (e := e) (k := P.cellsOf e) (cs := cs) (fl := flatV n) rfl (fun cs d p hd xs hxs => flat_of_trod n m e cs d p ht.1 hd xs hxs) l 0 (by omega) (by rw [hl, ht2]) (fun j hj => by
        rw [Nat.zero_add]; exact hg j (by omega)) xs hx
      simpa using this
    · rename_i fs hu
      simp only [Bool.and_eq_true] at ht
      obtain ⟨l, m, _, e1, hl, hn, hg⟩ := DataW.trod_struct hu h
      cases e1
      have hc := ht.2
      split at hc <;> first | (cases hc; done) | skip
      rename_i k hk
      have hk' := Nat.eq_of_beq_eq_true hc
      have := flat_fields (m := m) (cs := cs) (fl := flatV n) (P := P) (W := W) fs.toList l 0 (by simp [hn]) (by rw [hk, hl, hk']) (fun f hf cs d p hd xs hxs => flat_of_trod n m f.type cs d p (by
          have := List.all_eq_true.1 ht.1 f hf; exact this) hd xs hxs) (fun j f hf => hg j f (by simpa using hf)) xs hx
      simpa using this
    · cases ht

theorem laid_cons {n : String} {d : DataW Unit} {r : List (String × DataW Unit)} {ps : List MemPlace} (h : DataW.LaidVars P W ((n, d) :: r) ps) {b : Nat} (hb : P.globalNamed n = some b) {t : TypeId} (ht : (P.globals[b]?).map (·.type) = some t) :
    (∃ fuel p vs T fz, W.heap[b]? = some (.cells vs T fz) ∧ DataW.trod (fun _ => ()) P W 0 (fun _ => true) false fuel t vs.toList = some (d, p)) ∧ ∃ q, DataW.LaidVars P W r q := by
  obtain ⟨g', t', cs, fuel, p, q, h1, h2, h3, h4, h5, _⟩ := h
  cases hb.symm.trans h1
  cases ht.symm.trans h2
  refine ⟨?_, q, h5⟩
  unfold World.var? at h3
  rw [h1] at h3
  simp only [Option.bind_some] at h3
  split at h3
  · rename_i cs' T fz hh
    cases h3
    exact ⟨fuel, p, cs, T, fz, hh, h4⟩
  · cases h3
theorem laid_plain {n : String} {d : DataW Unit} {r : List (String × DataW Unit)} {ps : List MemPlace} (h : DataW.LaidVars P W ((n, d) :: r) ps) {b : Nat} (hb : P.globalNamed n = some b) {t : TypeId} (ht : (P.globals[b]?).map (·.type) = some t) (m : Nat) (hp : plainT P m t = true) {xs : List Value} (hx : flatV m d = some xs) :
    (∃ T fz, W.heap[b]? = some (.cells xs.toArray T fz)) ∧ ∃ q, DataW.LaidVars P W r q := by
  obtain ⟨⟨fuel, p, vs, T, fz, h1, h2⟩, k⟩ := laid_cons h hb ht
  have e : vs = xs.toArray := by rw [← flat_of_trod m fuel t vs.toList d p hp h2 xs hx]
  exact ⟨⟨T, fz, by rw [h1, e]⟩, k⟩
end Go.Proofs.YthhcdmmihjhipaaGreatDoor
