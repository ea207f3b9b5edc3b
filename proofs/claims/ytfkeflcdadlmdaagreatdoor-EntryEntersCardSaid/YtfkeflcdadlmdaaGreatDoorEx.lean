import Derived.WalkKit
import Derived.Handed
import Derived.LaidLaws
import Derived.OpenShut
namespace Go.Proofs.YtfkeflcdadlmdaaGreatDoor.Cc
open Go Go.RowKit

/-! ### tries on numbers -/
inductive Tr (α : Type) where
 | leaf
 | node (x : Option α) (l r : Tr α)
noncomputable def Tr.get {α : Type} (t : Tr α) : Nat → Option α :=
 Tr.rec (motive := fun _ => Nat → Option α) (fun _ => none)
  (fun x _ _ gl gr k => Nat.rec (motive := fun _ => Option α) x (fun k _ => Bool.rec (motive := fun _ => Option α) (gr (Nat.div k 2)) (gl (Nat.div k 2)) (Nat.beq (Nat.mod k 2) 0)) k) t
theorem Tr.get_leaf {α : Type} (k : Nat) : (Tr.leaf : Tr α).get k = none := rfl
theorem Tr.get_zero {α : Type} (x : Option α) (l r : Tr α) : (Tr.node x l r).get 0 = x := rfl
theorem Tr.get_succ {α : Type} (x : Option α) (l r : Tr α) (k : Nat) : (Tr.node x l r).get (k + 1) = cond (Nat.beq (Nat.mod k 2) 0) (l.get (Nat.div k 2)) (r.get (Nat.div k 2)) := by
 show (Bool.rec (motive := fun _ => Option α) (r.get (Nat.div k 2)) (l.get (Nat.div k 2)) (Nat.beq (Nat.mod k 2) 0) : Option α) = _
 cases Nat.beq (Nat.mod k 2) 0 <;> rfl
noncomputable def Tr.put {α : Type} (f : Nat) : Tr α → Nat → α → Tr α :=
 Nat.rec (motive := fun _ => Tr α → Nat → α → Tr α) (fun t _ _ => t)
  (fun _ ih t k v => Tr.rec (motive := fun _ => Tr α)
    (Nat.rec (motive := fun _ => Tr α) (.node (some v) .leaf .leaf)
      (fun k _ => Bool.rec (motive := fun _ => Tr α) (.node none .leaf (ih .leaf (Nat.div k 2) v)) (.node none (ih .leaf (Nat.div k 2) v) .leaf) (Nat.beq (Nat.mod k 2) 0)) k)
    (fun x l r _ _ => Nat.rec (motive := fun _ => Tr α) (.node (some v) l r)
      (fun k _ => Bool.rec (motive := fun _ => Tr α) (.node x l (ih r (Nat.div k 2) v)) (.node x (ih l (Nat.div k 2) v) r) (Nat.beq (Nat.mod k 2) 0)) k) t) f
theorem Tr.put_leaf0 {α : Type} (f : Nat) (v : α) : Tr.put (f + 1) .leaf 0 v = .node (some v) .leaf .leaf := rfl
theorem Tr.put_leaf1 {α : Type} (f k : Nat) (v : α) : Tr.put (f + 1) .leaf (k + 1) v = cond (Nat.beq (Nat.mod k 2) 0) (.node none (Tr.put f .leaf (Nat.div k 2) v) .leaf) (.node none .leaf (Tr.put f .leaf (Nat.div k 2) v)) := by
 show (Bool.rec (motive := fun _ => Tr α) (.node none .leaf (Tr.put f .leaf (Nat.div k 2) v)) (.node none (Tr.put f .leaf (Nat.div k 2) v) .leaf) (Nat.beq (Nat.mod k 2) 0) : Tr α) = _
 cases Nat.beq (Nat.mod k 2) 0 <;> rfl
theorem Tr.put_node0 {α : Type} (f : Nat) (x : Option α) (l r : Tr α) (v : α) : Tr.put (f + 1) (.node x l r) 0 v = .node (some v) l r := rfl
theorem Tr.put_node1 {α : Type} (f k : Nat) (x : Option α) (l r : Tr α) (v : α) : Tr.put (f + 1) (.node x l r) (k + 1) v = cond (Nat.beq (Nat.mod k 2) 0) (.node x (Tr.put f l (Nat.div k 2) v) r) (.node x l (Tr.put f r (Nat.div k 2) v)) := by
 show (Bool.rec (motive := fun _ => Tr α) (.node x l (Tr.put f r (Nat.div k 2) v)) (.node x (Tr.put f l (Nat.div k 2) v) r) (Nat.beq (Nat.mod k 2) 0) : Tr α) = _
 cases Nat.beq (Nat.mod k 2) 0 <;> rfl
noncomputable def Tr.set {α : Type} (t : Tr α) (k : Nat) (v : α) : Tr α := Tr.put (k + 1) t k v

theorem parity {i j : Nat} (h1 : Nat.beq (Nat.mod i 2) 0 = Nat.beq (Nat.mod j 2) 0) (h2 : Nat.div i 2 = Nat.div j 2) : i = j := by
 have e1 : i % 2 = 0 ↔ j % 2 = 0 := by
  have a : ∀ m : Nat, Nat.beq (Nat.mod m 2) 0 = true ↔ m % 2 = 0 := fun m => ⟨fun h => Nat.eq_of_beq_eq_true h, fun h => by show Nat.beq (m % 2) 0 = true; rw [h]; rfl⟩
  rw [← a, ← a, h1]
 have e2 : i / 2 = j / 2 := h2
 omega
theorem Tr.get_put {α : Type} : ∀ (f : Nat) (t : Tr α) (k : Nat) (v : α), k < f → ∀ j, (Tr.put f t k v).get j = if j = k then some v else t.get j
 | 0, _, _, _, h, _ => absurd h (Nat.not_lt_zero _)
 | f + 1, t, 0, v, _, j => by
  cases t with
  | leaf =>
   cases j with
   | zero => rfl
   | succ j =>
    rw [Tr.put_leaf0, Tr.get_succ]
    cases Nat.beq (Nat.mod j 2) 0 <;> simp [Tr.get_leaf]
  | node x l r =>
   cases j with
   | zero => rfl
   | succ j => rw [Tr.put_node0, Tr.get_succ, Tr.get_succ]; simp
 | f + 1, t, k + 1, v, h, j => by
  have hk : Nat.div k 2 < f := by
   have : k / 2 ≤ k := Nat.div_le_self k 2
   show k / 2 < f
   omega
  have ih := fun t => Tr.get_put f t (Nat.div k 2) v hk
  have same : ∀ j, Nat.beq (Nat.mod k 2) 0 = Nat.beq (Nat.mod j 2) 0 → (Nat.div j 2 = Nat.div k 2 ↔ j + 1 = k + 1) := fun j hb => ⟨fun e => by rw [parity (i := j) (j := k) hb.symm e], fun e => by rw [Nat.succ.inj e]⟩
  have other : ∀ j, Nat.beq (Nat.mod k 2) 0 ≠ Nat.beq (Nat.mod j 2) 0 → ¬ (j + 1 = k + 1) := fun j hb e => hb (by rw [Nat.succ.inj e])
  cases t with
  | leaf =>
   rw [Tr.put_leaf1]
   cases hb : Nat.beq (Nat.mod k 2) 0 with
   | true =>
    simp only [cond_true]
    cases j with
    | zero => simp [Tr.get_zero, Tr.get_leaf]
    | succ j =>
     rw [Tr.get_succ, Tr.get_leaf]
     cases hj : Nat.beq (Nat.mod j 2) 0 with
     | true =>
      simp only [cond_true, ih, Tr.get_leaf]
      simp only [same j (by rw [hb, hj])]
     | false => rw [if_neg (other j (by rw [hb, hj]; decide))]; rfl
   | false =>
    simp only [cond_false]
    cases j with
    | zero => simp [Tr.get_zero, Tr.get_leaf]
    | succ j =>
     rw [Tr.get_succ, Tr.get_leaf]
     cases hj : Nat.beq (Nat.mod j 2) 0 with
     | false =>
      simp only [cond_false, ih, Tr.get_leaf]
      simp only [same j (by rw [hb, hj])]
     | true => rw [if_neg (other j (by rw [hb, hj]; decide))]; rfl
  | node x l r =>
   rw [Tr.put_node1]
   cases hb : Nat.beq (Nat.mod k 2) 0 with
   | true =>
    simp only [cond_true]
    cases j with
    | zero => simp [Tr.get_zero]
    | succ j =>
     rw [Tr.get_succ, Tr.get_succ]
     cases hj : Nat.beq (Nat.mod j 2) 0 with
     | true =>
      simp only [cond_true, ih]
      simp only [same j (by rw [hb, hj])]
     | false => rw [if_neg (other j (by rw [hb, hj]; decide))]; rfl
   | false =>
    simp only [cond_false]
    cases j with
    | zero => simp [Tr.get_zero]
    | succ j =>
     rw [Tr.get_succ, Tr.get_succ]
     cases hj : Nat.beq (Nat.mod j 2) 0 with
     | false =>
      simp only [cond_false, ih]
      simp only [same j (by rw [hb, hj])]
     | true => rw [if_neg (other j (by rw [hb, hj]; decide))]; rfl
theorem Tr.get_set {α : Type} (t : Tr α) (k : Nat) (v : α) (j : Nat) : (t.set k v).get j = if j = k then some v else t.get j := Tr.get_put _ t k v (Nat.lt_succ_self k) j

/-! ### values -/
inductive V where
 | bool (b : Bool)
 | int (k : IntKind) (n : Int)
 | str (s : List UInt8)
 | nilp
 | ptr (n o : Nat)
 | nilS
 | voidS
 | viewS
 | sl (sz n o len : Nat)
 | nilM
 | map (n : Nat)
 | func (f : FuncId) (cs : List V)
 | nilF
 | iface (t : TypeId) (v : V)
 | nilI
 | agg (cs : List V)
 | tuple (cs : List V)
 | undef

def V.cells : V → List V
 | .agg cs => cs
 | v => [v]
def V.one : V → Bool
 | .agg _ | .tuple _ | .undef => false
 | _ => true
def V.lays : V → Bool
 | .agg cs => cs.all V.one
 | v => v.one

inductive O where
 | cells (T : TypeId) (cs : List V) (ex ro : Bool)
 | map (es : List (V × V))
 | iter (s : List UInt8) (pos : Nat)
 | gone
def O.own : O → Bool
 | .cells _ _ _ ro => !ro
 | .gone => false
 | _ => true

structure Grow (w w' : World) : Prop where
 os : w'.os = w.os
 tape : w'.tape = w.tape
 output : w'.output = w.output
 size : w.heap.size ≤ w'.heap.size
 block : ∀ k, k < w.heap.size → w'.heap[k]? = w.heap[k]?
theorem Grow.refl (w : World) : Grow w w := ⟨rfl, rfl, rfl, Nat.le_refl _, fun _ _ => rfl⟩
theorem Grow.trans {a b c : World} (h : Grow a b) (k : Grow b c) : Grow a c :=
 ⟨k.os.trans h.os, k.tape.trans h.tape, k.output.trans h.output, Nat.le_trans h.size k.size, fun i hi => (k.block i (Nat.lt_of_lt_of_le hi h.size)).trans (h.block i hi)⟩

structure Con where
 n : Nat
 con : Nat → Option O
 ro : ∀ m x, con m = some x → x.own = false
 inv : World → Prop
 up : ∀ w w', Grow w w' → inv w → inv w'

structure G where
 base : World
 ng : Con
 bn : Nat → Bool
 nm : Nat → Nat
 vs : Nat → Nat
 gl : ∀ b, b < ng.n → bn b = true ∧ nm b = b
 hinv : ng.inv base

structure G.le (g g' : G) : Prop where
 base : g'.base = g.base
 ng : g'.ng = g.ng
 bn : ∀ n, g.bn n = true → g'.bn n = true
 nm : ∀ n, g.bn n = true → g'.nm n = g.nm n
 vs : ∀ n, g.bn n = true → g'.vs n = g.vs n
theorem G.le.refl (g : G) : g.le g := ⟨rfl, rfl, fun _ h => h, fun _ _ => rfl, fun _ _ => rfl⟩
theorem G.le.trans {a b c : G} (h : a.le b) (l : b.le c) : a.le c :=
 ⟨l.base.trans h.base, l.ng.trans h.ng, fun n hn => l.bn n (h.bn n hn), fun n hn => (l.nm n (h.bn n hn)).trans (h.nm n hn), fun n hn => (l.vs n (h.bn n hn)).trans (h.vs n hn)⟩

inductive RelV (g : G) : V → Value → Prop
 | bool (b) : RelV g (.bool b) (.bool b)
 | int (k n) : RelV g (.int k n) (.int k n)
 | str (s : List UInt8) (h : s.length ≤ maxLen) : RelV g (.str s) (.string ⟨s.toArray⟩)
 | nilp : RelV g .nilp (.pointer none)
 | ptr (n o) (h : g.bn n = true) : RelV g (.ptr n o) (.pointer (some ⟨g.nm n, o, none⟩))
 | nilS : RelV g .nilS (.slice none 0 0)
 | voidS (a : Addr) : RelV g .voidS (.slice (some a) 0 0)
 | viewS (a : Option Addr) (c) (hc : c ≤ maxLen) : RelV g .viewS (.slice a 0 c)
 | sl (sz n o len cap) (h : g.bn n = true) (hv : o + cap * sz = g.vs n) (hl : len ≤ cap) (hc : cap ≤ maxLen) : RelV g (.sl sz n o len) (.slice (some ⟨g.nm n, o, none⟩) len cap)
 | nilM : RelV g .nilM (.map none)
 | map (n) (h : g.bn n = true) : RelV g (.map n) (.map (some (g.nm n)))
 | func (f : FuncId) (cs : List V) (vs : Array Value) (hn : cs.length = vs.size) (hr : ∀ (i : Nat) c v, cs[i]? = some c → vs[i]? = some v → RelV g c v) : RelV g (.func f cs) (.func (.func f) #[] vs)
 | nilF : RelV g .nilF .nilFunc
 | iface (t a v) (h : RelV g a v) : RelV g (.iface t a) (.iface t v)
 | nilI : RelV g .nilI .nilIface
 | agg (cs : List V) (vs : Array Value) (hn : cs.length = vs.size) (hr : ∀ (i : Nat) c v, cs[i]? = some c → vs[i]? = some v → RelV g c v) : RelV g (.agg cs) (.agg vs)
 | tuple (cs : List V) (vs : Array Value) (hn : cs.length = vs.size) (hr : ∀ (i : Nat) c v, cs[i]? = some c → vs[i]? = some v → RelV g c v) : RelV g (.tuple cs) (.tuple vs)
 | undef : RelV g .undef Go.undef

theorem RelV.mono {g g' : G} (h : g.le g') {a : V} {v : Value} (k : RelV g a v) : RelV g' a v := by
 induction k with
 | bool b => exact .bool b
 | int k n => exact .int k n
 | str s hs => exact .str s hs
 | nilp => exact .nilp
 | ptr n o hn => rw [← h.nm n hn]; exact .ptr n o (h.bn n hn)
 | nilS => exact .nilS
 | voidS a => exact .voidS a
 | viewS a c hc => exact .viewS a c hc
 | sl sz n o len cap hn hv hl hc => rw [← h.nm n hn]; exact .sl sz n o len cap (h.bn n hn) (by rw [h.vs n hn]; exact hv) hl hc
 | nilM => exact .nilM
 | map n hn => rw [← h.nm n hn]; exact .map n (h.bn n hn)
 | func f cs vs hn _ ih => exact .func f cs vs hn ih
 | nilF => exact .nilF
 | iface t a v _ ih => exact .iface t a v ih
 | nilI => exact .nilI
 | agg cs vs hn _ ih => exact .agg cs vs hn ih
 | tuple cs vs hn _ ih => exact .tuple cs vs hn ih
 | undef => exact .undef

def RelCells (g : G) (cs : List V) (vs : Array Value) : Prop := cs.length = vs.size ∧ ∀ (i : Nat) c v, cs[i]? = some c → vs[i]? = some v → RelV g c v
theorem RelCells.mono {g g' : G} (h : g.le g') {cs : List V} {vs : Array Value} (k : RelCells g cs vs) : RelCells g' cs vs := ⟨k.1, fun i c v hc hv => (k.2 i c v hc hv).mono h⟩
theorem RelCells.at {g : G} {cs : List V} {vs : Array Value} (k : RelCells g cs vs) {i : Nat} {c : V} (hc : cs[i]? = some c) : ∃ v, vs[i]? = some v ∧ RelV g c v := by
 have hi : i < cs.length := (List.getElem?_eq_some_iff.1 hc).1
 have hv : vs[i]? = some (vs[i]'(by have := k.1; omega)) := Array.getElem?_eq_getElem _
 exact ⟨_, hv, k.2 i c _ hc hv⟩
theorem RelCells.nil (g : G) : RelCells g [] #[] := ⟨rfl, fun i c v hc _ => by simp at hc⟩
theorem RelCells.append {g : G} {cs ds : List V} {vs us : Array Value} (h : RelCells g cs vs) (k : RelCells g ds us) : RelCells g (cs ++ ds) (vs ++ us) := by
 refine ⟨by simp [h.1, k.1], fun i c v hc hv => ?_⟩
 rw [List.getElem?_append] at hc
 rw [Array.getElem?_append] at hv
 rw [h.1] at hc
 split at hc
 ·rename_i hlt; rw [if_pos hlt] at hv; exact h.2 i c v hc hv
 ·rename_i hlt; rw [if_neg hlt] at hv; exact k.2 _ c v hc hv
theorem RelCells.one {g : G} {c : V} {v : Value} (h : RelV g c v) : RelCells g [c] #[v] := by
 refine ⟨rfl, fun i c' v' hc hv => ?_⟩
 cases i with
 | zero => simp at hc hv; subst hc; subst hv; exact h
 | succ i => simp at hc
theorem RelV.oneCell {g : G} {x : V} {v : Value} (h : RelV g x v) (h1 : x.one = true) : v.oneCell' = true := by
 cases h <;> first | rfl | (simp [V.one] at h1; done)
theorem RelV.rcells {g : G} {x : V} {v : Value} (h : RelV g x v) (hlay : x.lays = true) : RelCells g x.cells v.cells ∧ x.cells.all V.one = true := by
 cases h with
 | agg cs vs hn hr => exact ⟨⟨hn, hr⟩, hlay⟩
 | tuple cs vs hn hr => simp [V.lays, V.one] at hlay
 | undef => simp [V.lays, V.one] at hlay
 | bool b => exact ⟨RelCells.one (.bool b), by simp [V.cells, V.one]⟩
 | int k n => exact ⟨RelCells.one (.int k n), by simp [V.cells, V.one]⟩
 | str s hs => exact ⟨RelCells.one (.str s hs), by simp [V.cells, V.one]⟩
 | nilp => exact ⟨RelCells.one .nilp, by simp [V.cells, V.one]⟩
 | ptr n o hn => exact ⟨RelCells.one (.ptr n o hn), by simp [V.cells, V.one]⟩
 | nilS => exact ⟨RelCells.one .nilS, by simp [V.cells, V.one]⟩
 | voidS a => exact ⟨RelCells.one (.voidS a), by simp [V.cells, V.one]⟩
 | viewS a c hc => exact ⟨RelCells.one (.viewS a c hc), by simp [V.cells, V.one]⟩
 | sl sz n o len cap hn hv hl hc => exact ⟨RelCells.one (.sl sz n o len cap hn hv hl hc), by simp [V.cells, V.one]⟩
 | nilM => exact ⟨RelCells.one .nilM, by simp [V.cells, V.one]⟩
 | map n hn => exact ⟨RelCells.one (.map n hn), by simp [V.cells, V.one]⟩
 | func f cs vs hn hr => exact ⟨RelCells.one (.func f cs vs hn hr), by simp [V.cells, V.one]⟩
 | nilF => exact ⟨RelCells.one .nilF, by simp [V.cells, V.one]⟩
 | iface t a v h => exact ⟨RelCells.one (.iface t a v h), by simp [V.cells, V.one]⟩
 | nilI => exact ⟨RelCells.one .nilI, by simp [V.cells, V.one]⟩

/-! ### memory -/
structure Heap where
 t : Tr O
 nn : Nat
noncomputable def Heap.get (H : Heap) (n : Nat) : Option O := H.t.get n
noncomputable def Heap.set (H : Heap) (n : Nat) (x : O) : Heap := ⟨H.t.set n x, H.nn⟩
noncomputable def Heap.new (H : Heap) (x : O) : Heap := ⟨H.t.set H.nn x, H.nn + 1⟩
noncomputable def Heap.move (H : Heap) (n : Nat) (x : O) : Heap := ⟨(H.t.set n .gone).set H.nn x, H.nn + 1⟩

def RelEnts (g : G) (es : List (V × V)) (ents : Array MapEntry) : Prop :=
 es.length = ents.size ∧ ∀ (i : Nat) k x e, es[i]? = some (k, x) → ents[i]? = some e → RelV g k e.key ∧ RelV g x e.val
theorem RelEnts.mono {g g' : G} (h : g.le g') {es : List (V × V)} {ents : Array MapEntry} (k : RelEnts g es ents) : RelEnts g' es ents :=
 ⟨k.1, fun i c x e hc he => ⟨((k.2 i c x e hc he).1).mono h, ((k.2 i c x e hc he).2).mono h⟩⟩

def Thaw (n : Nat) (fz : Nat × Nat) : Prop := fz = (0, 0) ∨ n ≤ fz.1
def ObjAt (g : G) (w : World) (n : Nat) : O → Prop
 | .cells T cs ex ro => ∃ (vs : Array Value) (fz : Nat × Nat), (∃ T', w.heap[g.nm n]? = some (.cells vs T' fz) ∧ (ro = false → T' = T)) ∧ (ro = false → Thaw vs.size fz) ∧ vs.size = g.vs n ∧ cs.length ≤ vs.size ∧ (ex = true → cs.length = vs.size) ∧ RelCells g cs (vs.extract 0 cs.length)
 | .map es => ∃ ents clock, w.heap[g.nm n]? = some (.map ents clock) ∧ RelEnts g es ents ∧ MapKept.Stamped ents clock
 | .iter s pos => w.heap[g.nm n]? = some (.stringIter ⟨s.toArray⟩ pos)
 | .gone => True

theorem ObjAt.mono {g g' : G} {w w' : World} {n : Nat} {x : O} (h : ObjAt g w n x) (hl : g.le g') (hn : g.bn n = true) (hw : x = .gone ∨ w'.heap[g.nm n]? = w.heap[g.nm n]?) : ObjAt g' w' n x := by
 cases x with
 | gone => trivial
 | cells T cs ex ro =>
  have hw := hw.resolve_left (by simp)
  obtain ⟨vs, fz, h1, h2, h3, h4, h5, h6⟩ := h
  exact ⟨vs, fz, by rw [hl.nm n hn, hw]; exact h1, h2, by rw [hl.vs n hn]; exact h3, h4, h5, h6.mono hl⟩
 | map es =>
  have hw := hw.resolve_left (by simp)
  obtain ⟨ents, clock, h1, h2, h3⟩ := h
  exact ⟨ents, clock, by rw [hl.nm n hn, hw]; exact h1, h2.mono hl, h3⟩
 | iter s pos =>
  have hw := hw.resolve_left (by simp)
  show w'.heap[g'.nm n]? = _
  rw [hl.nm n hn, hw]; exact h

structure Sat (g : G) (H : Heap) (w : World) : Prop where
 keep : Grow g.base w
 fresh : ∀ n, H.nn ≤ n → H.get n = none
 dom : ∀ n x, H.get n = some x → g.bn n = true
 bn : ∀ n, g.bn n = true → ∃ x, H.get n = some x
 at_ : ∀ n x, H.get n = some x → ObjAt g w n x
 own : ∀ n x, H.get n = some x → x.own = true → g.base.heap.size ≤ g.nm n
 lt : ∀ n x, H.get n = some x → x = .gone ∨ g.nm n < w.heap.size
 inj : ∀ n n' x x', H.get n = some x → H.get n' = some x' → x.own = true → x' ≠ .gone → g.nm n = g.nm n' → n = n'
 con : ∀ m x, g.ng.con m = some x → H.get m = some x

theorem Sat.inv {g : G} {H : Heap} {w : World} (h : Sat g H w) : g.ng.inv w := g.ng.up _ _ h.keep g.hinv
theorem Sat.grows {g : G} {H : Heap} {w w' : World} (h : Sat g H w) (k : Grow w w') : Sat g H w' :=
 { h with keep := h.keep.trans k
          at_ := fun n x hx => (h.at_ n x hx).mono (G.le.refl g) (h.dom n x hx) ((h.lt n x hx).imp id fun q => k.block _ q)
          lt := fun n x hx => (h.lt n x hx).imp id fun q => Nat.lt_of_lt_of_le q k.size }
theorem Sat.put {g g' : G} {H H' : Heap} {w w' : World} (h : Sat g H w) {n b : Nat} {x : O} (hle : g.le g')
  (hos : w'.os = w.os) (htp : w'.tape = w.tape) (hout : w'.output = w.output) (hsz : w.heap.size ≤ w'.heap.size)
  (hb : g.base.heap.size ≤ b) (hb' : b < w'.heap.size) (hoth : ∀ k, k < w.heap.size → k ≠ b → w'.heap[k]? = w.heap[k]?)
  (hfr : ∀ n, H'.nn ≤ n → H'.get n = none) (hbn : ∀ m, g'.bn m = true → m = n ∨ g.bn m = true) (hx : ObjAt g' w' n x) (hnb : g'.nm n = b) (hn : g'.bn n = true) (hxg : x ≠ .gone)
  (hget : ∀ m z, H'.get m = some z → (m = n ∧ z = x) ∨ (m ≠ n ∧ H.get m = some z ∧ (z ≠ .gone → g.nm m ≠ b)) ∨ (z = .gone ∧ g'.bn m = true))
  (hhas : ∀ m, (m = n ∨ ∃ z, H.get m = some z) → ∃ z, H'.get m = some z) (hcon : ∀ m z, g.ng.con m = some z → H'.get m = some z) : Sat g' H' w' := by
 have old : ∀ {m z}, H.get m = some z → (z ≠ .gone → g.nm m ≠ b) → z = .gone ∨ w'.heap[g.nm m]? = w.heap[g.nm m]? := by
  intro m z hm hne
  rcases h.lt m z hm with h1 | h1
  ·exact .inl h1
  ·by_cases hz : z = .gone
   ·exact .inl hz
   ·exact .inr (hoth _ h1 (hne hz))
 have keep : Grow g'.base w' := by
  rw [hle.base]
  exact ⟨hos.trans h.keep.os, htp.trans h.keep.tape, hout.trans h.keep.output, Nat.le_trans h.keep.size hsz, fun k hk => (hoth k (Nat.lt_of_lt_of_le hk h.keep.size) (by omega)).trans (h.keep.block k hk)⟩
 refine { keep := keep, fresh := hfr, dom := fun m z hm => ?_, bn := fun m hm => ?_, at_ := fun m z hm => ?_, own := fun m z hm hz => ?_, lt := fun m z hm => ?_, inj := fun m m' z z' hm hm' hz hz' he => ?_, con := fun m z hm => hcon m z (by rw [← hle.ng]; exact hm) }
 ·rcases hget m z hm with ⟨rfl, _⟩ | ⟨_, h1, _⟩ | ⟨_, h1⟩
  ·exact hn
  ·exact hle.bn m (h.dom m z h1)
  ·exact h1
 ·rcases hbn m hm with h1 | h1
  ·exact hhas m (.inl h1)
  ·exact hhas m (.inr (h.bn m h1))
 ·rcases hget m z hm with ⟨rfl, rfl⟩ | ⟨_, h1, h2⟩ | ⟨rfl, _⟩
  ·exact hx
  ·exact (h.at_ m z h1).mono hle (h.dom m z h1) (old h1 h2)
  ·trivial
 ·rw [hle.base]
  rcases hget m z hm with ⟨rfl, rfl⟩ | ⟨_, h1, _⟩ | ⟨rfl, _⟩
  ·rw [hnb]; exact hb
  ·rw [hle.nm m (h.dom m z h1)]; exact h.own m z h1 hz
  ·cases hz
 ·rcases hget m z hm with ⟨rfl, rfl⟩ | ⟨_, h1, _⟩ | ⟨rfl, _⟩
  ·rw [hnb]; exact .inr hb'
  ·rw [hle.nm m (h.dom m z h1)]
   rcases h.lt m z h1 with h2 | h2
   ·exact .inl h2
   ·exact .inr (Nat.lt_of_lt_of_le h2 hsz)
  ·exact .inl rfl
 ·have notg : z ≠ .gone := by rintro rfl; cases hz
  rcases hget m z hm with ⟨e1, rfl⟩ | ⟨_, h1, h2⟩ | ⟨rfl, _⟩
  ·rcases hget m' z' hm' with ⟨e2, _⟩ | ⟨_, h3, h4⟩ | ⟨rfl, _⟩
   ·exact e1.trans e2.symm
   ·subst e1
    rw [hnb, hle.nm m' (h.dom m' z' h3)] at he
    exact absurd he.symm (h4 hz')
   ·exact absurd rfl hz'
  ·rcases hget m' z' hm' with ⟨e2, _⟩ | ⟨_, h3, _⟩ | ⟨rfl, _⟩
   ·subst e2
    rw [hnb, hle.nm m (h.dom m z h1)] at he
    exact absurd he (h2 notg)
   ·rw [hle.nm m (h.dom m z h1), hle.nm m' (h.dom m' z' h3)] at he
    exact h.inj m m' z z' h1 h3 hz hz' he
   ·exact absurd rfl hz'
  ·cases hz

def G.name (g : G) (n b k : Nat) (h : g.bn n = false) : G where
 base := g.base
 ng := g.ng
 bn m := Nat.beq m n || g.bn m
 nm m := if m = n then b else g.nm m
 vs m := if m = n then k else g.vs m
 gl c hc := by
  obtain ⟨h1, h2⟩ := g.gl c hc
  have hne : c ≠ n := by rintro rfl; rw [h] at h1; cases h1
  exact ⟨by simp [h1], by simp [hne, h2]⟩
 hinv := g.hinv
theorem G.le_name (g : G) (n b k : Nat) (h : g.bn n = false) : g.le (g.name n b k h) := by
 have ne : ∀ m, g.bn m = true → m ≠ n := fun m hm e => by rw [e, h] at hm; cases hm
 exact ⟨rfl, rfl, fun m hm => by simp [G.name, hm], fun m hm => if_neg (ne m hm), fun m hm => if_neg (ne m hm)⟩

theorem Heap.get_set (H : Heap) (n : Nat) (x : O) (m : Nat) : (H.set n x).get m = if m = n then some x else H.get m := Tr.get_set _ _ _ _
theorem Sat.newAt {g : G} {H : Heap} {w : World} (h : Sat g H w) {n : Nat} (hn : H.get n = none) (hlt : n < H.nn) (k : Nat) {x : O} {o : Obj} (hxg : x ≠ .gone) (hb : g.bn n = false)
  (hx : ObjAt (g.name n w.heap.size k hb) (w.alloc o) n x) : Sat (g.name n w.heap.size k hb) (H.set n x) (w.alloc o) := by
 have hsz : (w.alloc o).heap.size = w.heap.size + 1 := by simp
 refine h.put (g.le_name n _ k hb) rfl rfl rfl (by omega) h.keep.size (by omega) (fun j hj _ => Below.heap_alloc w o j hj) (fun m hm => ?_) (fun m hm => ?_) hx (if_pos rfl) (by simp [G.name]) hxg (fun m z hm => ?_) (fun m hm => ?_) (fun m z hm => ?_)
 ·have hm : H.nn ≤ m := hm
  rw [Heap.get_set, if_neg (by omega)]; exact h.fresh m hm
 ·simp only [G.name, Bool.or_eq_true] at hm
  exact hm.imp (fun e => Nat.eq_of_beq_eq_true e) id
 ·rw [Heap.get_set] at hm
  by_cases e : m = n
  ·rw [if_pos e] at hm; exact .inl ⟨e, (Option.some.inj hm).symm⟩
  ·rw [if_neg e] at hm
   refine .inr (.inl ⟨e, hm, fun hz => ?_⟩)
   have := (h.lt m z hm).resolve_left hz
   omega
 ·rw [Heap.get_set]
  by_cases e : m = n
  ·exact ⟨x, if_pos e⟩
  ·rw [if_neg e]; exact hm.resolve_left e
 ·have hz := h.con m z hm
  rw [Heap.get_set, if_neg (by rintro rfl; rw [hn] at hz; cases hz)]; exact hz
theorem Sat.new {g : G} {H : Heap} {w : World} (h : Sat g H w) (k : Nat) {x : O} {o : Obj} (hxg : x ≠ .gone) (hb : g.bn H.nn = false)
  (hx : ObjAt (g.name H.nn w.heap.size k hb) (w.alloc o) H.nn x) : Sat (g.name H.nn w.heap.size k hb) (H.new x) (w.alloc o) := by
 have h1 : Sat g ⟨H.t, H.nn + 1⟩ w := { h with fresh := fun n hn => h.fresh n (by have : H.nn + 1 ≤ n := hn; omega) }
 exact h1.newAt (n := H.nn) (h.fresh H.nn (Nat.le_refl _)) (Nat.lt_succ_self _) k hxg hb hx
theorem Sat.turn {g : G} {H : Heap} {w w' : World} (h : Sat g H w) {n : Nat} {x y : O} (hn : H.get n = some x) (hxo : x.own = true) (hyg : y ≠ .gone)
  (hos : w'.os = w.os) (htp : w'.tape = w.tape) (hout : w'.output = w.output) (hsz : w'.heap.size = w.heap.size)
  (hoth : ∀ k, k ≠ g.nm n → w'.heap[k]? = w.heap[k]?) (hy : ObjAt g w' n y) : Sat g (H.set n y) w' := by
 have hlt : g.nm n < w.heap.size := (h.lt n x hn).resolve_left (by rintro rfl; cases hxo)
 refine h.put (G.le.refl g) hos htp hout (by omega) (h.own n x hn hxo) (by omega) (fun k _ hk => hoth k hk) (fun m hm => ?_) (fun m hm => .inr hm) hy rfl (h.dom n x hn) hyg (fun m z hm => ?_) (fun m hm => ?_) (fun m z hm => ?_)
 ·have hm : H.nn ≤ m := hm
  have e : m ≠ n := by rintro rfl; rw [h.fresh m hm] at hn; cases hn
  rw [Heap.get_set, if_neg e]; exact h.fresh m hm
 ·rw [Heap.get_set] at hm
  by_cases e : m = n
  ·rw [if_pos e] at hm; exact .inl ⟨e, (Option.some.inj hm).symm⟩
  ·rw [if_neg e] at hm
   exact .inr (.inl ⟨e, hm, fun hz he => e (h.inj n m x z hn hm hxo hz he.symm).symm⟩)
 ·rw [Heap.get_set]
  by_cases e : m = n
  ·exact ⟨y, if_pos e⟩
  ·rw [if_neg e]; exact hm.resolve_left e
 ·have hz := h.con m z hm
  rw [Heap.get_set, if_neg (by rintro rfl; rw [hn] at hz; cases hz; rw [g.ng.ro _ _ hm] at hxo; cases hxo)]; exact hz

theorem Sat.drew {g : G} {H : Heap} {w : World} (h : Sat g H w) : Sat g H w.drew :=
 { keep := ⟨h.keep.os, h.keep.tape, h.keep.output, h.keep.size, h.keep.block⟩, fresh := h.fresh, dom := h.dom, bn := h.bn
   at_ := fun n x hn => (h.at_ n x hn).mono (G.le.refl g) (h.dom n x hn) (.inr rfl), own := h.own, lt := h.lt, inj := h.inj, con := h.con }
theorem Sat.same {g : G} {H H' : Heap} {w : World} (h : Sat g H w) (hg : ∀ n, H'.get n = H.get n) (hn : H.nn ≤ H'.nn) : Sat g H' w :=
 { keep := h.keep, fresh := fun n hl => by rw [hg]; exact h.fresh n (Nat.le_trans hn hl), dom := fun n x hx => h.dom n x (by rw [← hg]; exact hx), bn := fun n hb => by obtain ⟨x, hx⟩ := h.bn n hb; exact ⟨x, by rw [hg]; exact hx⟩
   at_ := fun n x hx => h.at_ n x (by rw [← hg]; exact hx), own := fun n x hx => h.own n x (by rw [← hg]; exact hx), lt := fun n x hx => h.lt n x (by rw [← hg]; exact hx)
   inj := fun n n' x x' hx hx' => h.inj n n' x x' (by rw [← hg]; exact hx) (by rw [← hg]; exact hx'), con := fun m x hm => by rw [hg]; exact h.con m x hm }

end Go.Proofs.YtfkeflcdadlmdaaGreatDoor.Cc

namespace Go.Proofs.YtfkeflcdadlmdaaGreatDoor.Cc
open Go Go.RowKit

structure TyI where
 und : TypeDesc
 size : Nat
 bytes : Nat
 agg : Bool
 zero : V

abbrev TI := TypeId → Option TyI

abbrev Lk := Nat → Option V
def Lk.put (e : Lk) (d : Option Tmp) (x : V) : Lk := fun t => match d with | some d => cond (Nat.beq t d) (some x) (e t) | none => e t
def Lk.only (l : List Nat) (e : Lk) : Lk := fun t => cond (l.contains t) (e t) none

/-! ### constants, operands -/
def V.val1 : V → Option Value
 | .bool b => some (.bool b)
 | .int k n => some (.int k n)
 | .str s => some (.string ⟨s.toArray⟩)
 | .nilp => some (.pointer none)
 | .nilS => some (.slice none 0 0)
 | .nilM => some (.map none)
 | .nilF => some .nilFunc
 | .nilI => some .nilIface
 | _ => none
def V.valL : List V → Option (List Value)
 | [] => some []
 | x :: xs => match V.val1 x with
  | some v => (match V.valL xs with | some vs => some (v :: vs) | none => none)
  | none => none
def V.val : V → Option Value
 | .agg cs => (match V.valL cs with | some vs => some (.agg vs.toArray) | none => none)
 | .iface t x => (match V.val1 x with | some v => some (.iface t v) | none => none)
 | x => V.val1 x

def putRow (cs : List V) (o : Nat) (ds : List V) : List V := cs.take o ++ ds ++ cs.drop (o + ds.length)
def rep (zs : List V) : Nat → List V
 | 0 => []
 | n + 1 => zs ++ rep zs n
def partV (i : TyI) (cs : List V) (off : Nat) : Option V :=
 cond i.agg (cond (Nat.ble (off + i.size) cs.length) (some (.agg ((cs.drop off).take i.size))) none) (cs[off]?)
/-! ### operations that ask nothing of memory -/
/-! ### operations that ask of memory -/
noncomputable def objCells (H : Heap) (n : Nat) : Option (List V) := match H.get n with | some (.cells _ cs _ _) => some cs | _ => none
def V.key : V → V → Option Bool
 | .int k m, .int k' q => cond (decide (k = k')) (some (decide (m = q))) none
 | .str s, .str t => some (decide (s = t))
 | _, _ => none
/-! ### regions -/
/-! A region that draws its order: a plan. 'free i D': operation i may be taken at once, whatever comes up beside it (D: those that wait for it); 'late j A': all that may come up beside j (A) are such as make a block and nothing else. -/
inductive PS where
 | free (i : Nat) (D : List Nat)
 | late (j : Nat) (A : List Nat)
structure Ob where
 D : List Nat
 n : Nat
 o : Nat
 T : TypeId
 x : V
mutual
def V.beq : V → V → Bool
 | .bool a, .bool b => a == b
 | .int k m, .int k' q => decide (k = k') && decide (m = q)
 | .str s, .str t => decide (s = t)
 | .nilp, .nilp => true
 | .ptr n o, .ptr n' o' => Nat.beq n n' && Nat.beq o o'
 | .nilS, .nilS => true
 | .voidS, .voidS => true
 | .sl a b c d, .sl a' b' c' d' => Nat.beq a a' && (Nat.beq b b' && (Nat.beq c c' && Nat.beq d d'))
 | .nilM, .nilM => true
 | .map n, .map n' => Nat.beq n n'
 | .func f cs, .func f' cs' => Nat.beq f f' && V.beqL cs cs'
 | .nilF, .nilF => true
 | .iface t v, .iface t' v' => Nat.beq t t' && V.beq v v'
 | .nilI, .nilI => true
 | .agg cs, .agg cs' => V.beqL cs cs'
 | .tuple cs, .tuple cs' => V.beqL cs cs'
 | _, _ => false
def V.beqL : List V → List V → Bool
 | [], [] => true
 | x :: xs, y :: ys => V.beq x y && V.beqL xs ys
 | _, _ => false
end
noncomputable def loadV (ti : TI) (H : Heap) (n o : Nat) (T : TypeId) : Option V := match ti T, objCells H n with
 | some i, some cs => partV i cs o
 | _, _ => none
noncomputable def Ob.holds (ti : TI) (H : Heap) (b : Ob) : Bool := match loadV ti H b.n b.o b.T with | some y => V.beq y b.x | none => false
/-! ### code -/
inductive Ex where
 | normal
 | exit (id : Nat)
 | ret
/-! ### calls -/
structure FnI where
 body : Code
 ntmps : Nat
 results : List ResultVar
end Go.Proofs.YtfkeflcdadlmdaaGreatDoor.Cc

namespace Go.Proofs.YtfkeflcdadlmdaaGreatDoor
open Go Go.RowKit
variable {H : Type} {enc : TypeId × Value → H}

theorem lift_and {a : Assume} {C : Checked} {os : Os} {f : FuncId} {fn : Func} {s : ChangeSpec} {conds : List PathCond} {apart fresh handsOn again : Bool} {X : World → Array Value → Prop}
  (hX : ∀ (w w' : World) (args : Array Value), w.heap = w'.heap → X w args → X w' args)
  (own : ownKnob C.prog.godebug = none) (started : os.Started) (noInit : C.prog.inits.idxOf? f = none) (hfn : C.prog.funcs[f]? = some fn)
  (witness : ∃ (w : World) (tape : Tape) (i : Input), w.os = os ∧ (w.forCall tape i).Shaped C.prog ∧ i.vars = [] ∧ Input.okWide C.prog (w.forCall tape i) .any w.heap.size f i ∧
    ((s.pre enc C.prog fn conds apart (w.forCall tape i).memory i.args ∧ X (w.forCall tape i).memory i.args) ∧ sizedMet enc C.prog fn (OpenSpec.ofChange s) apart (w.forCall tape i).memory i.args) ∧ a.holds C.prog (lone (Frame.enter C.prog f i.args .normal) [] (w.forCall tape i)))
  (contract : ∀ (W : World) (base : Nat) (args : Array Value) (ds gs : List (DataW H)) (before : List MemPlace), W.ShapedOpen C.prog →
    (∀ (j : Nat) t v, fn.params[j]? = some t → args[j]? = some v → Value.okWide C.prog W .any base t v) →
    DataW.Whole enc C.prog fn.params.toList s.vars apart W args.toList ds gs before →
    conds.all (PathCond.test C.prog ⟨fn.params.toList, ds, s.plain.varTypes C.prog, gs⟩) = true →
    (DataW.weightsEach C.prog (fn.params.toList ++ s.plain.varTypes C.prog) (ds ++ gs)).all (· ≤ reachBytes) = true → X W args →
    Calls C.prog f args W fun e W' => ∃ v, e = .returned v ∧ s.post enc C.prog fn apart fresh handsOn again W args v W') :
  ReturnsInHanded a C os f .any (fun w args => (s.pre enc C.prog fn conds apart w args ∧ X w args) ∧ sizedMet enc C.prog fn (OpenSpec.ofChange s) apart w args) (s.post enc C.prog fn apart fresh handsOn again) := by
 refine returnsInHanded_of_calls own started noInit witness ?_
 intro w tape i _ hsh _ hok hpre _
 obtain ⟨_, _, _, fn', hfn', _, _, _, _, hval⟩ := hok
 have e : fn' = fn := Option.some.inj (hfn'.symm.trans hfn)
 subst e
 obtain ⟨⟨⟨ds, gs, before, hw, hc⟩, hx⟩, hz⟩ := hpre
 have hw' := DataW.Whole.of_heap (w' := w.forCall tape i) (by rfl) hw
 refine (contract (w.forCall tape i) w.heap.size i.args ds gs before hsh hval hw' hc (hz.weights hw) (hX _ _ _ (by rfl) hx)).mono fun e W' ⟨v, he, hp⟩ => ?_
 subst he
 exact ChangeSpec.post_blind hp

/-! ### plain variables as data -/
def akR : Nat → DataW Unit → Option (List Cc.V)
 | 0, _ => none
 | _ + 1, .lit (.int k m) => some [.int k m]
 | _ + 1, .lit (.string s) => some [.str s]
 | _ + 1, .lit (.bool b) => some [.bool b]
 | n + 1, .agg ds => ds.foldr (fun d r => match akR n d, r with | some x, some y => some (x ++ y) | _, _ => none) (some [])
 | _, _ => none
def asE (P : Program) : List Field → Nat → Option Nat
 | [], o => some o
 | f :: r, o => if f.offset = o then asE P r (o + P.cellsOf f.type) else none
def atZ (P : Program) : Nat → TypeId → Bool
 | 0, _ => false
 | n + 1, t => match P.underlying t with
  | some (.int _) | some .string | some .bool => true
  | some (.array N e) => atZ P n e && Nat.beq (P.cellsOf t) (N * P.cellsOf e)
  | some (.struct fs) => fs.toList.all (fun f => atZ P n f.type) && (match asE P fs.toList 0 with | some k => Nat.beq k (P.cellsOf t) | none => false)
  | _ => false

theorem Cc.RelCells.list {g : Cc.G} {xs ys : List Cc.V} {cs : List Value} {n : Nat} (h1 : Cc.RelCells g xs (cs.take n).toArray) (h2 : Cc.RelCells g ys (cs.drop n).toArray) : Cc.RelCells g (xs ++ ys) cs.toArray := by
 have := h1.append h2
 simpa using this
theorem akI {g : Cc.G} {cs : List Value} (h : cs.length = 0) : Cc.RelCells g [] cs.toArray := by
 have : cs = [] := List.length_eq_zero_iff.1 h
 subst this; exact Cc.RelCells.nil g

variable {P : Program} {W : World} {g : Cc.G}
theorem apX {n m e k : Nat} {cs : List Value} {fl : DataW Unit → Option (List Cc.V)} (hp : P.cellsOf e = k)
  (ih : ∀ cs d p, DataW.trod (fun _ => ()) P W 0 (fun _ => true) false m e cs = some (d, p) → ∀ xs, fl d = some xs → Cc.RelCells g xs cs.toArray) :
  ∀ (l : List (DataW Unit × List MemPlace)) (i : Nat), i + l.length = n → cs.length = n * k → (∀ j, j < l.length → DataW.trod (fun _ => ()) P W 0 (fun _ => true) false m e ((cs.drop ((i + j) * k)).take k) = l[j]?) →
   ∀ xs, (l.map (·.1)).foldr (fun d r => match fl d, r with | some x, some y => some (x ++ y) | _, _ => none) (some []) = some xs → Cc.RelCells g xs (cs.drop (i * k)).toArray
 | [], i, hi, hl, _, xs, hx => by
  simp at hx hi; subst hx; subst hi
  exact akI (by simp [hl])
 | a :: l, i, hi, hl, hg, xs, hx => by
  simp only [List.map_cons, List.foldr_cons] at hx
  split at hx
  ·rename_i x y hx1 hx2
   cases hx
   simp only [List.length_cons] at hi
   have h0 := hg 0 (by simp)
   simp only [Nat.add_zero, List.getElem?_cons_zero] at h0
   have r1 := ih _ _ _ h0 _ hx1
   have r2 := apX (n := n) (m := m) (e := e) (k := k) (cs := cs) hp ih l (i + 1) (by omega) hl (fun j hj => by
     have := hg (j + 1) (by simp; omega)
     simp only [List.getElem?_cons_succ] at this
     rw [← this]
     congr 4; omega) y hx2
   refine Cc.RelCells.list (n := k) r1 ?_
   rw [List.drop_drop]
   rw [show i * k + k = (i + 1) * k by rw [Nat.add_mul, Nat.one_mul]]
   exact r2
  ·cases hx
theorem anK {m : Nat} {cs : List Value} {fl : DataW Unit → Option (List Cc.V)} :
  ∀ (fs : List Field) (l : List (DataW Unit × List MemPlace)) (o : Nat), fs.length = l.length → asE P fs o = some cs.length →
   (∀ f, f ∈ fs → ∀ cs d p, DataW.trod (fun _ => ()) P W 0 (fun _ => true) false m f.type cs = some (d, p) → ∀ xs, fl d = some xs → Cc.RelCells g xs cs.toArray) →
   (∀ (j : Nat) (f : Field), fs[j]? = some f → DataW.trod (fun _ => ()) P W 0 (fun _ => true) false m f.type ((cs.drop f.offset).take (P.cellsOf f.type)) = l[j]?) →
   ∀ xs, (l.map (·.1)).foldr (fun d r => match fl d, r with | some x, some y => some (x ++ y) | _, _ => none) (some []) = some xs → Cc.RelCells g xs (cs.drop o).toArray
 | [], l, o, hl, hc, _, _, xs, hx => by
  have hl' : l = [] := List.length_eq_zero_iff.1 hl.symm
  subst hl'
  simp at hx; subst hx
  have hc : o = cs.length := Option.some.inj hc
  exact akI (by simp [hc])
 | f :: fs, [], o, hl, _, _, _, xs, hx => by simp at hl
 | f :: fs, a :: l, o, hl, hc, ih, hg, xs, hx => by
  unfold asE at hc
  split at hc
  ·rename_i ho
   simp only [List.map_cons, List.foldr_cons] at hx
   split at hx
   ·rename_i x y hx1 hx2
    cases hx
    have h0 := hg 0 f rfl
    simp only [List.getElem?_cons_zero] at h0
    have r1 := ih f (by simp) _ _ _ h0 _ hx1
    have r2 := anK (m := m) (cs := cs) fs l (o + P.cellsOf f.type) (by simpa using hl) hc (fun f hf => ih f (by simp [hf])) (fun j f hf => by
      have := hg (j + 1) f (by simpa using hf)
      simpa using this) y hx2
    rw [ho] at r1
    refine Cc.RelCells.list (n := P.cellsOf f.type) r1 ?_
    rw [List.drop_drop]
    exact r2
   ·cases hx
  ·cases hc
theorem agA : ∀ (n fuel : Nat) (t : TypeId) (cs : List Value) (d : DataW Unit) (p : List MemPlace), atZ P n t = true → DataW.trod (fun _ => ()) P W 0 (fun _ => true) false fuel t cs = some (d, p) → ∀ xs, akR n d = some xs → Cc.RelCells g xs cs.toArray
 | 0, _, _, _, _, _, ht, _, _, _ => by cases ht
 | n + 1, fuel, t, cs, d, p, ht, h, xs, hx => by
  unfold atZ at ht
  split at ht
  ·rename_i k hu
   obtain ⟨m, rfl, e, _⟩ := DataW.trod_int hu h
   cases e; cases hx
   exact Cc.RelCells.one (.int _ _)
  ·rename_i hu
   obtain ⟨s, rfl, e, hs⟩ := DataW.trod_string hu h
   cases e; cases hx
   have : Cc.RelV g (.str s.data.toList) (.string ⟨s.data.toList.toArray⟩) := .str _ (by simpa using hs)
   exact Cc.RelCells.one (by simpa using this)
  ·rename_i hu
   obtain ⟨b, rfl, e⟩ := DataW.trod_bool hu h
   cases e; cases hx
   exact Cc.RelCells.one (.bool _)
  ·rename_i N e hu
   simp only [Bool.and_eq_true] at ht
   obtain ⟨l, m, _, e1, hl, hn, hg⟩ := DataW.trod_array hu h
   cases e1
   have ht2 := Nat.eq_of_beq_eq_true ht.2
   have := apX (n := N) (m := m) (e := e) (k := P.cellsOf e) (cs := cs) (fl := akR n) rfl (fun cs d p hd xs hxs => agA n m e cs d p ht.1 hd xs hxs) l 0 (by omega) (by rw [hl, ht2]) (fun j hj => by
     rw [Nat.zero_add]; exact hg j (by omega)) xs hx
   simpa using this
  ·rename_i fs hu
   simp only [Bool.and_eq_true] at ht
   obtain ⟨l, m, _, e1, hl, hn, hg⟩ := DataW.trod_struct hu h
   cases e1
   have hc := ht.2
   split at hc <;> first | (cases hc; done) | skip
   rename_i k hk
   have hk' := Nat.eq_of_beq_eq_true hc
   have := anK (m := m) (cs := cs) (fl := akR n) (P := P) (W := W) (g := g) fs.toList l 0 (by simp [hn]) (by rw [hk, hl, hk']) (fun f hf cs d p hd xs hxs => agA n m f.type cs d p (by
       have := List.all_eq_true.1 ht.1 f hf; exact this) hd xs hxs) (fun j f hf => hg j f (by simpa using hf)) xs hx
   simpa using this
  ·cases ht

theorem anF {n : String} {d : DataW Unit} {r : List (String × DataW Unit)} {ps : List MemPlace} (h : DataW.LaidVars P W ((n, d) :: r) ps) {b : Nat} (hb : P.globalNamed n = some b) {t : TypeId} (ht : (P.globals[b]?).map (·.type) = some t) :
  (∃ fuel p vs T fz, W.heap[b]? = some (.cells vs T fz) ∧ DataW.trod (fun _ => ()) P W 0 (fun _ => true) false fuel t vs.toList = some (d, p)) ∧ ∃ q, DataW.LaidVars P W r q := by
 obtain ⟨g', t', cs, fuel, p, q, h1, h2, h3, h4, h5, _⟩ := h
 cases hb.symm.trans h1
 cases ht.symm.trans h2
 refine ⟨?_, q, h5⟩
 unfold World.var? at h3
 rw [h1] at h3
 simp only [Option.bind_some] at h3
 split at h3
 ·rename_i cs' T fz hh
  cases h3
  exact ⟨fuel, p, cs, T, fz, hh, h4⟩
 ·cases h3
theorem acR {n : String} {d : DataW Unit} {r : List (String × DataW Unit)} {ps : List MemPlace} (h : DataW.LaidVars P W ((n, d) :: r) ps) {b : Nat} (hb : P.globalNamed n = some b) {t : TypeId} (ht : (P.globals[b]?).map (·.type) = some t) (m : Nat) (hp : atZ P m t = true) {xs : List Cc.V} (hx : akR m d = some xs) :
  (∃ vs T fz, W.heap[b]? = some (.cells vs T fz) ∧ ∀ g, Cc.RelCells g xs vs) ∧ ∃ q, DataW.LaidVars P W r q := by
 obtain ⟨⟨fuel, p, vs, T, fz, h1, h2⟩, k⟩ := anF h hb ht
 exact ⟨⟨vs, T, fz, h1, fun g => by have := agA (g := g) m fuel t vs.toList d p hp h2 xs hx; simpa using this⟩, k⟩
end Go.Proofs.YtfkeflcdadlmdaaGreatDoor
