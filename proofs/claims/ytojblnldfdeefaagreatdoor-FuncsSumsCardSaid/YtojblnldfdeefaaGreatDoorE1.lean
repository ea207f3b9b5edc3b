/-
  The evaluator of closed calls, part 1: values as data ('V'), tries ('Tr'), memory as data ('Heap'), and what holds of a world between them ('Sat').
  Every block bears a name; names are numbers, in the order in which the blocks were made. Nothing of the program is named here.
-/
import Derived.WalkKit
namespace Go.Proofs.YtojblnldfdeefaaGreatDoor.Cc
open Go Go.RowKit

/-! ### tries on numbers -/
inductive Tr (α : Type) where
  | leaf
  | node (x : Option α) (l r : Tr α)
noncomputable def Tr.get {α : Type} (t : Tr α) : Nat → Option α :=
  Tr.rec (motive := fun _ => Nat → Option α) (fun _ => none)
    (fun x _ _ gl gr k => Nat.rec (motive := fun _ => Option α) x (fun k _ => Bool.rec (motive := fun _ => Option α) (gr (Nat.div k 2)) (gl (Nat.div k 2)) (Nat.beq (Nat.mod k 2) 0)) k) t
theorem Tr.get_leaf {α : Type} (k : Nat) : (Tr.leaf : Tr α).get k = none := rfl
theorem Tr.get_zero {α : Type} (x : Option α) (l r : Tr α) : (Tr.node x l r).get 0 = x := rfl
theorem Tr.get_succ {α : Type} (x : Option α) (l r : Tr α) (k : Nat) : (Tr.node x l r).get (k + 1) = cond (Nat.beq (Nat.mod k 2) 0) (l.get (Nat.div k 2)) (r.get (Nat.div k 2)) := by
  show (Bool.rec (motive := fun _ => Option α) (r.get (Nat.div k 2)) (l.get (Nat.div k 2)) (Nat.beq (Nat.mod k 2) 0) : Option α) = _
  cases Nat.beq (Nat.mod k 2) 0 <;> rfl
noncomputable def Tr.put {α : Type} (f : Nat) : Tr α → Nat → α → Tr α :=
  Nat.rec (motive := fun _ => Tr α → Nat → α → Tr α) (fun t _ _ => t)
    (fun _ ih t k v => Tr.rec (motive := fun _ => Tr α)
      (Nat.rec (motive := fun _ => Tr α) (.node (some v) .leaf .leaf)
        (fun k _ => Bool.rec (motive := fun _ => Tr α) (.node none .leaf (ih .leaf (Nat.div k 2) v)) (.node none (ih .leaf (Nat.div k 2) v) .leaf) (Nat.beq (Nat.mod k 2) 0)) k)
      (fun x l r _ _ => Nat.rec (motive := fun _ => Tr α) (.node (some v) l r)
        (fun k _ => Bool.rec (motive := fun _ => Tr α) (.node x l (ih r (Nat.div k 2) v)) (.node x (ih l (Nat.div k 2) v) r) (Nat.beq (Nat.mod k 2) 0)) k) t) f
theorem Tr.put_leaf0 {α : Type} (f : Nat) (v : α) : Tr.put (f + 1) .leaf 0 v = .node (some v) .leaf .leaf := rfl
theorem Tr.put_leaf1 {α : Type} (f k : Nat) (v : α) : Tr.put (f + 1) .leaf (k + 1) v = cond (Nat.beq (Nat.mod k 2) 0) (.node none (Tr.put f .leaf (Nat.div k 2) v) .leaf) (.node none .leaf (Tr.put f .leaf (Nat.div k 2) v)) := by
  show (Bool.rec (motive := fun _ => Tr α) (.node none .leaf (Tr.put f .leaf (Nat.div k 2) v)) (.node none (Tr.put f .leaf (Nat.div k 2) v) .leaf) (Nat.beq (Nat.mod k 2) 0) : Tr α) = _
  cases Nat.beq (Nat.mod k 2) 0 <;> rfl
theorem Tr.put_node0 {α : Type} (f : Nat) (x : Option α) (l r : Tr α) (v : α) : Tr.put (f + 1) (.node x l r) 0 v = .node (some v) l r := rfl
theorem Tr.put_node1 {α : Type} (f k : Nat) (x : Option α) (l r : Tr α) (v : α) : Tr.put (f + 1) (.node x l r) (k + 1) v = cond (Nat.beq (Nat.mod k 2) 0) (.node x (Tr.put f l (Nat.div k 2) v) r) (.node x l (Tr.put f r (Nat.div k 2) v)) := by
  show (Bool.rec (motive := fun _ => Tr α) (.node x l (Tr.put f r (Nat.div k 2) v)) (.node x (Tr.put f l (Nat.div k 2) v) r) (Nat.beq (Nat.mod k 2) 0) : Tr α) = _
  cases Nat.beq (Nat.mod k 2) 0 <;> rfl
noncomputable def Tr.set {α : Type} (t : Tr α) (k : Nat) (v : α) : Tr α := Tr.put (k + 1) t k v

theorem parity {i j : Nat} (h1 : Nat.beq (Nat.mod i 2) 0 = Nat.beq (Nat.mod j 2) 0) (h2 : Nat.div i 2 = Nat.div j 2) : i = j := by
  have e1 : i % 2 = 0 ↔ j % 2 = 0 := by
    have a : ∀ m : Nat, Nat.beq (Nat.mod m 2) 0 = true ↔ m % 2 = 0 := fun m => ⟨fun h => Nat.eq_of_beq_eq_true h, fun h => by show Nat.beq (m % 2) 0 = true; rw [h]; rfl⟩
    rw [← a, ← a, h1]
  have e2 : i / 2 = j / 2 := h2
  omega
theorem Tr.get_put {α : Type} : ∀ (f : Nat) (t : Tr α) (k : Nat) (v : α), k < f → ∀ j, (Tr.put f t k v).get j = if j = k then some v else t.get j
  | 0, _, _, _, h, _ => absurd h (Nat.not_lt_zero _)
  | f + 1, t, 0, v, _, j => by
    cases t with
    | leaf =>
      cases j with
      | zero => rfl
      | succ j =>
        rw [Tr.put_leaf0, Tr.get_succ]
        cases Nat.beq (Nat.mod j 2) 0 <;> simp [Tr.get_leaf]
    | node x l r =>
      cases j with
      | zero => rfl
      | succ j => rw [Tr.put_node0, Tr.get_succ, Tr.get_succ]; simp
  | f + 1, t, k + 1, v, h, j => by
    have hk : Nat.div k 2 < f := by
      have : k / 2 ≤ k := Nat.div_le_self k 2
      show k / 2 < f
      omega
    have ih := fun t => Tr.get_put f t (Nat.div k 2) v hk
    have same : ∀ j, Nat.beq (Nat.mod k 2) 0 = Nat.beq (Nat.mod j 2) 0 → (Nat.div j 2 = Nat.div k 2 ↔ j + 1 = k + 1) := fun j hb => ⟨fun e => by rw [parity (i := j) (j := k) hb.symm e], fun e => by rw [Nat.succ.inj e]⟩
    have other : ∀ j, Nat.beq (Nat.mod k 2) 0 ≠ Nat.beq (Nat.mod j 2) 0 → ¬ (j + 1 = k + 1) := fun j hb e => hb (by rw [Nat.succ.inj e])
    cases t with
    | leaf =>
      rw [Tr.put_leaf1]
      cases hb : Nat.beq (Nat.mod k 2) 0 with
      | true =>
        simp only [cond_true]
        cases j with
        | zero => simp [Tr.get_zero, Tr.get_leaf]
        | succ j =>
          rw [Tr.get_succ, Tr.get_leaf]
          cases hj : Nat.beq (Nat.mod j 2) 0 with
          | true =>
            simp only [cond_true, ih, Tr.get_leaf]
            simp only [same j (by rw [hb, hj])]
          | false => rw [if_neg (other j (by rw [hb, hj]; decide))]; rfl
      | false =>
        simp only [cond_false]
        cases j with
        | zero => simp [Tr.get_zero, Tr.get_leaf]
        | succ j =>
          rw [Tr.get_succ, Tr.get_leaf]
          cases hj : Nat.beq (Nat.mod j 2) 0 with
          | false =>
            simp only [cond_false, ih, Tr.get_leaf]
            simp only [same j (by rw [hb, hj])]
          | true => rw [if_neg (other j (by rw [hb, hj]; decide))]; rfl
    | node x l r =>
      rw [Tr.put_node1]
      cases hb : Nat.beq (Nat.mod k 2) 0 with
      | true =>
        simp only [cond_true]
        cases j with
        | zero => simp [Tr.get_zero]
        | succ j =>
          rw [Tr.get_succ, Tr.get_succ]
          cases hj : Nat.beq (Nat.mod j 2) 0 with
          | true =>
            simp only [cond_true, ih]
            simp only [same j (by rw [hb, hj])]
          | false => rw [if_neg (other j (by rw [hb, hj]; decide))]; rfl
      | false =>
        simp only [cond_false]
        cases j with
        | zero => simp [Tr.get_zero]
        | succ j =>
          rw [Tr.get_succ, Tr.get_succ]
          cases hj : Nat.beq (Nat.mod j 2) 0 with
          | false =>
            simp only [cond_false, ih]
            simp only [same j (by rw [hb, hj])]
          | true => rw [if_neg (other j (by rw [hb, hj]; decide))]; rfl
theorem Tr.get_set {α : Type} (t : Tr α) (k : Nat) (v : α) (j : Nat) : (t.set k v).get j = if j = k then some v else t.get j := Tr.get_put _ t k v (Nat.lt_succ_self k) j

/-! ### values -/
inductive V where
  | bool (b : Bool)
  | int (k : IntKind) (n : Int)
  | str (s : List UInt8)
  | nilp
  | ptr (n o : Nat)
  | nilS
  | voidS
  | viewS
  | sl (sz n o len : Nat)
  | nilM
  | map (n : Nat)
  | func (f : FuncId) (cs : List V)
  | meth (f : FuncId) (cs : List V)
  | nilF
  | iface (t : TypeId) (v : V)
  | nilI
  | agg (cs : List V)
  | tuple (cs : List V)
  | undef

def V.cells : V → List V
  | .agg cs => cs
  | v => [v]
def V.one : V → Bool
  | .agg _ | .tuple _ | .undef => false
  | _ => true
def V.lays : V → Bool
  | .agg cs => cs.all V.one
  | v => v.one

inductive O where
  | cells (T : TypeId) (cs : List V) (ex ro : Bool)
  | map (es : List (V × V))
  | iter (s : List UInt8) (pos : Nat)
  | gone
def O.own : O → Bool
  | .cells _ _ _ ro => !ro
  | .gone => false
  | _ => true

structure Grow (w w' : World) : Prop where
  os : w'.os = w.os
  tape : w'.tape = w.tape
  output : w'.output = w.output
  size : w.heap.size ≤ w'.heap.size
  block : ∀ k, k < w.heap.size → w'.heap[k]? = w.heap[k]?
theorem Grow.refl (w : World) : Grow w w := ⟨rfl, rfl, rfl, Nat.le_refl _, fun _ _ => rfl⟩
theorem Grow.trans {a b c : World} (h : Grow a b) (k : Grow b c) : Grow a c :=
  ⟨k.os.trans h.os, k.tape.trans h.tape, k.output.trans h.output, Nat.le_trans h.size k.size, fun i hi => (k.block i (Nat.lt_of_lt_of_le hi h.size)).trans (h.block i hi)⟩

structure Con where
  n : Nat
  con : Nat → Option O
  ro : ∀ m x, con m = some x → x.own = false
  inv : World → Prop
  up : ∀ w w', Grow w w' → inv w → inv w'

structure G where
  base : World
  ng : Con
  bn : Nat → Bool
  nm : Nat → Nat
  vs : Nat → Nat
  gl : ∀ b, b < ng.n → bn b = true ∧ nm b = b
  hinv : ng.inv base

structure G.le (g g' : G) : Prop where
  base : g'.base = g.base
  ng : g'.ng = g.ng
  bn : ∀ n, g.bn n = true → g'.bn n = true
  nm : ∀ n, g.bn n = true → g'.nm n = g.nm n
  vs : ∀ n, g.bn n = true → g'.vs n = g.vs n
theorem G.le.refl (g : G) : g.le g := ⟨rfl, rfl, fun _ h => h, fun _ _ => rfl, fun _ _ => rfl⟩
theorem G.le.trans {a b c : G} (h : a.le b) (l : b.le c) : a.le c :=
  ⟨l.base.trans h.base, l.ng.trans h.ng, fun n hn => l.bn n (h.bn n hn), fun n hn => (l.nm n (h.bn n hn)).trans (h.nm n hn), fun n hn => (l.vs n (h.bn n hn)).trans (h.vs n hn)⟩

inductive RelV (g : G) : V → Value → Prop
  | bool (b) : RelV g (.bool b) (.bool b)
  | int (k n) : RelV g (.int k n) (.int k n)
  | str (s : List UInt8) (h : s.length ≤ maxLen) : RelV g (.str s) (.string ⟨s.toArray⟩)
  | nilp : RelV g .nilp (.pointer none)
  | ptr (n o) (h : g.bn n = true) : RelV g (.ptr n o) (.pointer (some ⟨g.nm n, o, none⟩))
  | nilS : RelV g .nilS (.slice none 0 0)
  | voidS (a : Addr) : RelV g .voidS (.slice (some a) 0 0)
  | viewS (a : Option Addr) (c) (hc : c ≤ maxLen) : RelV g .viewS (.slice a 0 c)
  | sl (sz n o len cap) (h : g.bn n = true) (hv : o + cap * sz = g.vs n) (hl : len ≤ cap) (hc : cap ≤ maxLen) : RelV g (.sl sz n o len) (.slice (some ⟨g.nm n, o, none⟩) len cap)
  | nilM : RelV g .nilM (.map none)
  | map (n) (h : g.bn n = true) : RelV g (.map n) (.map (some (g.nm n)))
  | func (f : FuncId) (cs : List V) (vs : Array Value) (hn : cs.length = vs.size) (hr : ∀ (i : Nat) c v, cs[i]? = some c → vs[i]? = some v → RelV g c v) : RelV g (.func f cs) (.func (.func f) #[] vs)
  | meth (f : FuncId) (cs : List V) (vs : Array Value) (hn : cs.length = vs.size) (hr : ∀ (i : Nat) c v, cs[i]? = some c → vs[i]? = some v → RelV g c v) : RelV g (.meth f cs) (.func (.func f) vs #[])
  | nilF : RelV g .nilF .nilFunc
  | iface (t a v) (h : RelV g a v) : RelV g (.iface t a) (.iface t v)
  | nilI : RelV g .nilI .nilIface
  | agg (cs : List V) (vs : Array Value) (hn : cs.length = vs.size) (hr : ∀ (i : Nat) c v, cs[i]? = some c → vs[i]? = some v → RelV g c v) : RelV g (.agg cs) (.agg vs)
  | tuple (cs : List V) (vs : Array Value) (hn : cs.length = vs.size) (hr : ∀ (i : Nat) c v, cs[i]? = some c → vs[i]? = some v → RelV g c v) : RelV g (.tuple cs) (.tuple vs)
  | undef : RelV g .undef Go.undef

theorem RelV.mono {g g' : G} (h : g.le g') {a : V} {v : Value} (k : RelV g a v) : RelV g' a v := by
  induction k with
  | bool b => exact .bool b
  | int k n => exact .int k n
  | str s hs => exact .str s hs
  | nilp => exact .nilp
  | ptr n o hn => rw [← h.nm n hn]; exact .ptr n o (h.bn n hn)
  | nilS => exact .nilS
  | voidS a => exact .voidS a
  | viewS a c hc => exact .viewS a c hc
  | sl sz n o len cap hn hv hl hc => rw [← h.nm n hn]; exact .sl sz n o len cap (h.bn n hn) (by rw [h.vs n hn]; exact hv) hl hc
  | nilM => exact .nilM
  | map n hn => rw [← h.nm n hn]; exact .map n (h.bn n hn)
  | func f cs vs hn _ ih => exact .func f cs vs hn ih
  | meth f cs vs hn _ ih => exact .meth f cs vs hn ih
  | nilF => exact .nilF
  | iface t a v _ ih => exact .iface t a v ih
  | nilI => exact .nilI
  | agg cs vs hn _ ih => exact .agg cs vs hn ih
  | tuple cs vs hn _ ih => exact .tuple cs vs hn ih
  | undef => exact .undef

def RelCells (g : G) (cs : List V) (vs : Array Value) : Prop := cs.length = vs.size ∧ ∀ (i : Nat) c v, cs[i]? = some c → vs[i]? = some v → RelV g c v
theorem RelCells.mono {g g' : G} (h : g.le g') {cs : List V} {vs : Array Value} (k : RelCells g cs vs) : RelCells g' cs vs := ⟨k.1, fun i c v hc hv => (k.2 i c v hc hv).mono h⟩
theorem RelCells.at {g : G} {cs : List V} {vs : Array Value} (k : RelCells g cs vs) {i : Nat} {c : V} (hc : cs[i]? = some c) : ∃ v, vs[i]? = some v ∧ RelV g c v := by
  have hi : i < cs.length := (List.getElem?_eq_some_iff.1 hc).1
  have hv : vs[i]? = some (vs[i]'(by have := k.1; omega)) := Array.getElem?_eq_getElem _
  exact ⟨_, hv, k.2 i c _ hc hv⟩
theorem RelCells.nil (g : G) : RelCells g [] #[] := ⟨rfl, fun i c v hc _ => by simp at hc⟩
theorem RelCells.append {g : G} {cs ds : List V} {vs us : Array Value} (h : RelCells g cs vs) (k : RelCells g ds us) : RelCells g (cs ++ ds) (vs ++ us) := by
  refine ⟨by simp [h.1, k.1], fun i c v hc hv => ?_⟩
  rw [List.getElem?_append] at hc
  rw [Array.getElem?_append] at hv
  rw [h.1] at hc
  split at hc
  · rename_i hlt; rw [if_pos hlt] at hv; exact h.2 i c v hc hv
  · rename_i hlt; rw [if_neg hlt] at hv; exact k.2 _ c v hc hv
theorem RelCells.one {g : G} {c : V} {v : Value} (h : RelV g c v) : RelCells g [c] #[v] := by
  refine ⟨rfl, fun i c' v' hc hv => ?_⟩
  cases i with
  | zero => simp at hc hv; subst hc; subst hv; exact h
  | succ i => simp at hc
theorem RelCells.piece {g : G} {cs : List V} {vs : Array Value} (h : RelCells g cs vs) {o k : Nat} (hk : o + k ≤ cs.length) : RelCells g ((cs.drop o).take k) (vs.extract o (o + k)) := by
  have e := h.1
  refine ⟨by simp; omega, fun i c v hc hv => ?_⟩
  simp only [Array.getElem?_extract] at hv
  rw [List.getElem?_take] at hc
  split at hc
  · rw [List.getElem?_drop] at hc
    split at hv
    · exact h.2 (o + i) c v hc hv
    · cases hv
  · cases hc

theorem RelV.oneCell {g : G} {x : V} {v : Value} (h : RelV g x v) (h1 : x.one = true) : v.oneCell' = true := by
  cases h <;> first | rfl | (simp [V.one] at h1; done)
theorem RelV.rcells {g : G} {x : V} {v : Value} (h : RelV g x v) (hlay : x.lays = true) : RelCells g x.cells v.cells ∧ x.cells.all V.one = true := by
  cases h with
  | agg cs vs hn hr => exact ⟨⟨hn, hr⟩, hlay⟩
  | tuple cs vs hn hr => simp [V.lays, V.one] at hlay
  | undef => simp [V.lays, V.one] at hlay
  | bool b => exact ⟨RelCells.one (.bool b), by simp [V.cells, V.one]⟩
  | int k n => exact ⟨RelCells.one (.int k n), by simp [V.cells, V.one]⟩
  | str s hs => exact ⟨RelCells.one (.str s hs), by simp [V.cells, V.one]⟩
  | nilp => exact ⟨RelCells.one .nilp, by simp [V.cells, V.one]⟩
  | ptr n o hn => exact ⟨RelCells.one (.ptr n o hn), by simp [V.cells, V.one]⟩
  | nilS => exact ⟨RelCells.one .nilS, by simp [V.cells, V.one]⟩
  | voidS a => exact ⟨RelCells.one (.voidS a), by simp [V.cells, V.one]⟩
  | viewS a c hc => exact ⟨RelCells.one (.viewS a c hc), by simp [V.cells, V.one]⟩
  | sl sz n o len cap hn hv hl hc => exact ⟨RelCells.one (.sl sz n o len cap hn hv hl hc), by simp [V.cells, V.one]⟩
  | nilM => exact ⟨RelCells.one .nilM, by simp [V.cells, V.one]⟩
  | map n hn => exact ⟨RelCells.one (.map n hn), by simp [V.cells, V.one]⟩
  | func f cs vs hn hr => exact ⟨RelCells.one (.func f cs vs hn hr), by simp [V.cells, V.one]⟩
  | meth f cs vs hn hr => exact ⟨RelCells.one (.meth f cs vs hn hr), by simp [V.cells, V.one]⟩
  | nilF => exact ⟨RelCells.one .nilF, by simp [V.cells, V.one]⟩
  | iface t a v h => exact ⟨RelCells.one (.iface t a v h), by simp [V.cells, V.one]⟩
  | nilI => exact ⟨RelCells.one .nilI, by simp [V.cells, V.one]⟩

/-! ### memory -/
structure Heap where
  t : Tr O
  nn : Nat
noncomputable def Heap.get (H : Heap) (n : Nat) : Option O := H.t.get n
noncomputable def Heap.set (H : Heap) (n : Nat) (x : O) : Heap := ⟨H.t.set n x, H.nn⟩
noncomputable def Heap.new (H : Heap) (x : O) : Heap := ⟨H.t.set H.nn x, H.nn + 1⟩
noncomputable def Heap.move (H : Heap) (n : Nat) (x : O) : Heap := ⟨(H.t.set n .gone).set H.nn x, H.nn + 1⟩

def RelEnts (g : G) (es : List (V × V)) (ents : Array MapEntry) : Prop :=
  es.length = ents.size ∧ ∀ (i : Nat) k x e, es[i]? = some (k, x) → ents[i]? = some e → RelV g k e.key ∧ RelV g x e.val
theorem RelEnts.mono {g g' : G} (h : g.le g') {es : List (V × V)} {ents : Array MapEntry} (k : RelEnts g es ents) : RelEnts g' es ents :=
  ⟨k.1, fun i c x e hc he => ⟨((k.2 i c x e hc he).1).mono h, ((k.2 i c x e hc he).2).mono h⟩⟩

def Thaw (n : Nat) (fz : Nat × Nat) : Prop := fz = (0, 0) ∨ n ≤ fz.1
def ObjAt (g : G) (w : World) (n : Nat) : O → Prop
  | .cells T cs ex ro => ∃ (vs : Array Value) (fz : Nat × Nat), (∃ T', w.heap[g.nm n]? = some (.cells vs T' fz) ∧ (ro = false → T' = T)) ∧ (ro = false → Thaw vs.size fz) ∧ vs.size = g.vs n ∧ cs.length ≤ vs.size ∧ (ex = true → cs.length = vs.size) ∧ RelCells g cs (vs.extract 0 cs.length)
  | .map es => ∃ ents clock, w.heap[g.nm n]? = some (.map ents clock) ∧ RelEnts g es ents ∧ MapKept.Stamped ents clock
  | .iter s pos => w.heap[g.nm n]? = some (.stringIter ⟨s.toArray⟩ pos)
  | .gone => True

theorem ObjAt.mono {g g' : G} {w w' : World} {n : Nat} {x : O} (h : ObjAt g w n x) (hl : g.le g') (hn : g.bn n = true) (hw : x = .gone ∨ w'.heap[g.nm n]? = w.heap[g.nm n]?) : ObjAt g' w' n x := by
  cases x with
  | gone => trivial
  | cells T cs ex ro =>
    have hw := hw.resolve_left (by simp)
    obtain ⟨vs, fz, h1, h2, h3, h4, h5, h6⟩ := h
    exact ⟨vs, fz, by rw [hl.nm n hn, hw]; exact h1, h2, by rw [hl.vs n hn]; exact h3, h4, h5, h6.mono hl⟩
  | map es =>
    have hw := hw.resolve_left (by simp)
    obtain ⟨ents, clock, h1, h2, h3⟩ := h
    exact ⟨ents, clock, by rw [hl.nm n hn, hw]; exact h1, h2.mono hl, h3⟩
  | iter s pos =>
    have hw := hw.resolve_left (by simp)
    show w'.heap[g'.nm n]? = _
    rw [hl.nm n hn, hw]; exact h

structure Sat (g : G) (H : Heap) (w : World) : Prop where
  keep : Grow g.base w
  fresh : ∀ n, H.nn ≤ n → H.get n = none
  dom : ∀ n x, H.get n = some x → g.bn n = true
  bn : ∀ n, g.bn n = true → ∃ x, H.get n = some x
  at_ : ∀ n x, H.get n = some x → ObjAt g w n x
  own : ∀ n x, H.get n = some x → x.own = true → g.base.heap.size ≤ g.nm n
  lt : ∀ n x, H.get n = some x → x = .gone ∨ g.nm n < w.heap.size
  inj : ∀ n n' x x', H.get n = some x → H.get n' = some x' → x.own = true → x' ≠ .gone → g.nm n = g.nm n' → n = n'
  con : ∀ m x, g.ng.con m = some x → H.get m = some x

theorem Sat.inv {g : G} {H : Heap} {w : World} (h : Sat g H w) : g.ng.inv w := g.ng.up _ _ h.keep g.hinv
theorem Sat.grows {g : G} {H : Heap} {w w' : World} (h : Sat g H w) (k : Grow w w') : Sat g H w' :=
  { h with keep := h.keep.trans k
           at_ := fun n x hx => (h.at_ n x hx).mono (G.le.refl g) (h.dom n x hx) ((h.lt n x hx).imp id fun q => k.block _ q)
           lt := fun n x hx => (h.lt n x hx).imp id fun q => Nat.lt_of_lt_of_le q k.size }
theorem Sat.put {g g' : G} {H H' : Heap} {w w' : World} (h : Sat g H w) {n b : Nat} {x : O} (hle : g.le g')
    (hos : w'.os = w.os) (htp : w'.tape = w.tape) (hout : w'.output = w.output) (hsz : w.heap.size ≤ w'.heap.size)
    (hb : g.base.heap.size ≤ b) (hb' : b < w'.heap.size) (hoth : ∀ k, k < w.heap.size → k ≠ b → w'.heap[k]? = w.heap[k]?)
    (hfr : ∀ n, H'.nn ≤ n → H'.get n = none) (hbn : ∀ m, g'.bn m = true → m = n ∨ g.bn m = true) (hx : ObjAt g' w' n x) (hnb : g'.nm n = b) (hn : g'.bn n = true) (hxg : x ≠ .gone)
    (hget : ∀ m z, H'.get m = some z → (m = n ∧ z = x) ∨ (m ≠ n ∧ H.get m = some z ∧ (z ≠ .gone → g.nm m ≠ b)) ∨ (z = .gone ∧ g'.bn m = true))
    (hhas : ∀ m, (m = n ∨ ∃ z, H.get m = some z) → ∃ z, H'.get m = some z) (hcon : ∀ m z, g.ng.con m = some z → H'.get m = some z) : Sat g' H' w' := by
  have old : ∀ {m z}, H.get m = some z → (z ≠ .gone → g.nm m ≠ b) → z = .gone ∨ w'.heap[g.nm m]? = w.heap[g.nm m]? := by
    intro m z hm hne
    rcases h.lt m z hm with h1 | h1
    · exact .inl h1
    · by_cases hz : z = .gone
      · exact .inl hz
      · exact .inr (hoth _ h1 (hne hz))
  have keep : Grow g'.base w' := by
    rw [hle.base]
    exact ⟨hos.trans h.keep.os, htp.trans h.keep.tape, hout.trans h.keep.output, Nat.le_trans h.keep.size hsz, fun k hk => (hoth k (Nat.lt_of_lt_of_le hk h.keep.size) (by omega)).trans (h.keep.block k hk)⟩
  refine { keep := keep, fresh := hfr, dom := fun m z hm => ?_, bn := fun m hm => ?_, at_ := fun m z hm => ?_, own := fun m z hm hz => ?_, lt := fun m z hm => ?_, inj := fun m m' z z' hm hm' hz hz' he => ?_, con := fun m z hm => hcon m z (by rw [← hle.ng]; exact hm) }
  · rcases hget m z hm with ⟨rfl, _⟩ | ⟨_, h1, _⟩ | ⟨_, h1⟩
    · exact hn
    · exact hle.bn m (h.dom m z h1)
    · exact h1
  · rcases hbn m hm with h1 | h1
    · exact hhas m (.inl h1)
    · exact hhas m (.inr (h.bn m h1))
  · rcases hget m z hm with ⟨rfl, rfl⟩ | ⟨_, h1, h2⟩ | ⟨rfl, _⟩
    · exact hx
    · exact (h.at_ m z h1).mono hle (h.dom m z h1) (old h1 h2)
    · trivial
  · rw [hle.base]
    rcases hget m z hm with ⟨rfl, rfl⟩ | ⟨_, h1, _⟩ | ⟨rfl, _⟩
    · rw [hnb]; exact hb
    · rw [hle.nm m (h.dom m z h1)]; exact h.own m z h1 hz
    · cases hz
  · rcases hget m z hm with ⟨rfl, rfl⟩ | ⟨_, h1, _⟩ | ⟨rfl, _⟩
    · rw [hnb]; exact .inr hb'
    · rw [hle.nm m (h.dom m z h1)]
      rcases h.lt m z h1 with h2 | h2
      · exact .inl h2
      · exact .inr (Nat.lt_of_lt_of_le h2 hsz)
    · exact .inl rfl
  · have notg : z ≠ .gone := by rintro rfl; cases hz
    rcases hget m z hm with ⟨e1, rfl⟩ | ⟨_, h1, h2⟩ | ⟨rfl, _⟩
    · rcases hget m' z' hm' with ⟨e2, _⟩ | ⟨_, h3, h4⟩ | ⟨rfl, _⟩
      · exact e1.trans e2.symm
      · subst e1
        rw [hnb, hle.nm m' (h.dom m' z' h3)] at he
        exact absurd he.symm (h4 hz')
      · exact absurd rfl hz'
    · rcases hget m' z' hm' with ⟨e2, _⟩ | ⟨_, h3, _⟩ | ⟨rfl, _⟩
      · subst e2
        rw [hnb, hle.nm m (h.dom m z h1)] at he
        exact absurd he (h2 notg)
      · rw [hle.nm m (h.dom m z h1), hle.nm m' (h.dom m' z' h3)] at he
        exact h.inj m m' z z' h1 h3 hz hz' he
      · exact absurd rfl hz'
    · cases hz

def G.name (g : G) (n b k : Nat) (h : g.bn n = false) : G where
  base := g.base
  ng := g.ng
  bn m := Nat.beq m n || g.bn m
  nm m := if m = n then b else g.nm m
  vs m := if m = n then k else g.vs m
  gl c hc := by
    obtain ⟨h1, h2⟩ := g.gl c hc
    have hne : c ≠ n := by rintro rfl; rw [h] at h1; cases h1
    exact ⟨by simp [h1], by simp [hne, h2]⟩
  hinv := g.hinv
theorem G.le_name (g : G) (n b k : Nat) (h : g.bn n = false) : g.le (g.name n b k h) := by
  have ne : ∀ m, g.bn m = true → m ≠ n := fun m hm e => by rw [e, h] at hm; cases hm
  exact ⟨rfl, rfl, fun m hm => by simp [G.name, hm], fun m hm => if_neg (ne m hm), fun m hm => if_neg (ne m hm)⟩

theorem Heap.get_set (H : Heap) (n : Nat) (x : O) (m : Nat) : (H.set n x).get m = if m = n then some x else H.get m := Tr.get_set _ _ _ _
theorem Heap.get_move (H : Heap) (n : Nat) (x : O) (m : Nat) : (H.move n x).get m = if m = H.nn then some x else if m = n then some .gone else H.get m := by
  unfold Heap.move Heap.get
  rw [Tr.get_set, Tr.get_set]

theorem Sat.not_bn {g : G} {H : Heap} {w : World} (h : Sat g H w) {n : Nat} (hn : H.get n = none) : g.bn n = false := by
  cases hb : g.bn n with
  | false => rfl
  | true => obtain ⟨x, hx⟩ := h.bn n hb; rw [hn] at hx; cases hx

theorem Sat.newAt {g : G} {H : Heap} {w : World} (h : Sat g H w) {n : Nat} (hn : H.get n = none) (hlt : n < H.nn) (k : Nat) {x : O} {o : Obj} (hxg : x ≠ .gone) (hb : g.bn n = false)
    (hx : ObjAt (g.name n w.heap.size k hb) (w.alloc o) n x) : Sat (g.name n w.heap.size k hb) (H.set n x) (w.alloc o) := by
  have hsz : (w.alloc o).heap.size = w.heap.size + 1 := by simp
  refine h.put (g.le_name n _ k hb) rfl rfl rfl (by omega) h.keep.size (by omega) (fun j hj _ => Below.heap_alloc w o j hj) (fun m hm => ?_) (fun m hm => ?_) hx (if_pos rfl) (by simp [G.name]) hxg (fun m z hm => ?_) (fun m hm => ?_) (fun m z hm => ?_)
  · have hm : H.nn ≤ m := hm
    rw [Heap.get_set, if_neg (by omega)]; exact h.fresh m hm
  · simp only [G.name, Bool.or_eq_true] at hm
    exact hm.imp (fun e => Nat.eq_of_beq_eq_true e) id
  · rw [Heap.get_set] at hm
    by_cases e : m = n
    · rw [if_pos e] at hm; exact .inl ⟨e, (Option.some.inj hm).symm⟩
    · rw [if_neg e] at hm
      refine .inr (.inl ⟨e, hm, fun hz => ?_⟩)
      have := (h.lt m z hm).resolve_left hz
      omega
  · rw [Heap.get_set]
    by_cases e : m = n
    · exact ⟨x, if_pos e⟩
    · rw [if_neg e]; exact hm.resolve_left e
  · have hz := h.con m z hm
    rw [Heap.get_set, if_neg (by rintro rfl; rw [hn] at hz; cases hz)]; exact hz
theorem Sat.new {g : G} {H : Heap} {w : World} (h : Sat g H w) (k : Nat) {x : O} {o : Obj} (hxg : x ≠ .gone) (hb : g.bn H.nn = false)
    (hx : ObjAt (g.name H.nn w.heap.size k hb) (w.alloc o) H.nn x) : Sat (g.name H.nn w.heap.size k hb) (H.new x) (w.alloc o) := by
  have h1 : Sat g ⟨H.t, H.nn + 1⟩ w := { h with fresh := fun n hn => h.fresh n (by have : H.nn + 1 ≤ n := hn; omega) }
  exact h1.newAt (n := H.nn) (h.fresh H.nn (Nat.le_refl _)) (Nat.lt_succ_self _) k hxg hb hx
theorem Sat.nn_not_bn {g : G} {H : Heap} {w : World} (h : Sat g H w) : g.bn H.nn = false := h.not_bn (h.fresh H.nn (Nat.le_refl _))

theorem Sat.turn {g : G} {H : Heap} {w w' : World} (h : Sat g H w) {n : Nat} {x y : O} (hn : H.get n = some x) (hxo : x.own = true) (hyg : y ≠ .gone)
    (hos : w'.os = w.os) (htp : w'.tape = w.tape) (hout : w'.output = w.output) (hsz : w'.heap.size = w.heap.size)
    (hoth : ∀ k, k ≠ g.nm n → w'.heap[k]? = w.heap[k]?) (hy : ObjAt g w' n y) : Sat g (H.set n y) w' := by
  have hlt : g.nm n < w.heap.size := (h.lt n x hn).resolve_left (by rintro rfl; cases hxo)
  refine h.put (G.le.refl g) hos htp hout (by omega) (h.own n x hn hxo) (by omega) (fun k _ hk => hoth k hk) (fun m hm => ?_) (fun m hm => .inr hm) hy rfl (h.dom n x hn) hyg (fun m z hm => ?_) (fun m hm => ?_) (fun m z hm => ?_)
  · have hm : H.nn ≤ m := hm
    have e : m ≠ n := by rintro rfl; rw [h.fresh m hm] at hn; cases hn
    rw [Heap.get_set, if_neg e]; exact h.fresh m hm
  · rw [Heap.get_set] at hm
    by_cases e : m = n
    · rw [if_pos e] at hm; exact .inl ⟨e, (Option.some.inj hm).symm⟩
    · rw [if_neg e] at hm
      exact .inr (.inl ⟨e, hm, fun hz he => e (h.inj n m x z hn hm hxo hz he.symm).symm⟩)
  · rw [Heap.get_set]
    by_cases e : m = n
    · exact ⟨y, if_pos e⟩
    · rw [if_neg e]; exact hm.resolve_left e
  · have hz := h.con m z hm
    rw [Heap.get_set, if_neg (by rintro rfl; rw [hn] at hz; cases hz; rw [g.ng.ro _ _ hm] at hxo; cases hxo)]; exact hz

theorem Sat.moveAt {g : G} {H : Heap} {w w' : World} (h : Sat g H w) {n b k : Nat} {x y : O} (hn : H.get n = some x) (hxo : x.own = true) (hyg : y ≠ .gone) (hb : g.bn H.nn = false)
    (hos : w'.os = w.os) (htp : w'.tape = w.tape) (hout : w'.output = w.output) (hsz : w.heap.size ≤ w'.heap.size) (hbw : b = g.nm n ∨ w.heap.size ≤ b) (hb' : b < w'.heap.size)
    (hoth : ∀ k, k < w.heap.size → k ≠ b → w'.heap[k]? = w.heap[k]?) (hy : ObjAt (g.name H.nn b k hb) w' H.nn y) : Sat (g.name H.nn b k hb) (H.move n y) w' := by
  have hnn : n ≠ H.nn := by rintro rfl; rw [h.fresh _ (Nat.le_refl _)] at hn; cases hn
  have hbase : g.base.heap.size ≤ b := by
    rcases hbw with rfl | h1
    · exact h.own n x hn hxo
    · exact Nat.le_trans h.keep.size h1
  refine h.put (g.le_name _ _ _ hb) hos htp hout hsz hbase hb' hoth (fun m hm => ?_) (fun m hm => ?_) hy (if_pos rfl) (by simp [G.name]) hyg (fun m z hm => ?_) (fun m hm => ?_) (fun m z hm => ?_)
  · have hm : H.nn + 1 ≤ m := hm
    have e : m ≠ n := by rintro rfl; rw [h.fresh m (by omega)] at hn; cases hn
    rw [Heap.get_move, if_neg (by omega), if_neg e]; exact h.fresh m (by omega)
  · simp only [G.name, Bool.or_eq_true] at hm
    exact hm.imp (fun e => Nat.eq_of_beq_eq_true e) id
  · rw [Heap.get_move] at hm
    by_cases e : m = H.nn
    · rw [if_pos e] at hm; exact .inl ⟨e, (Option.some.inj hm).symm⟩
    · rw [if_neg e] at hm
      by_cases e2 : m = n
      · rw [if_pos e2] at hm
        refine .inr (.inr ⟨(Option.some.inj hm).symm, ?_⟩)
        rw [e2]
        exact (g.le_name _ _ _ hb).bn n (h.dom n x hn)
      · rw [if_neg e2] at hm
        refine .inr (.inl ⟨e, hm, fun hz he => ?_⟩)
        rcases hbw with rfl | h1
        · exact e2 (h.inj n m x z hn hm hxo hz he.symm).symm
        · have := (h.lt m z hm).resolve_left hz
          omega
  · rw [Heap.get_move]
    by_cases e : m = H.nn
    · exact ⟨y, if_pos e⟩
    · rw [if_neg e]
      by_cases e2 : m = n
      · exact ⟨.gone, if_pos e2⟩
      · rw [if_neg e2]; exact hm.resolve_left e
  · have hz := h.con m z hm
    have e1 : m ≠ H.nn := by rintro rfl; rw [h.fresh _ (Nat.le_refl _)] at hz; cases hz
    have e2 : m ≠ n := by rintro rfl; rw [hn] at hz; cases hz; rw [g.ng.ro _ _ hm] at hxo; cases hxo
    rw [Heap.get_move, if_neg e1, if_neg e2]; exact hz

theorem Sat.drew {g : G} {H : Heap} {w : World} (h : Sat g H w) : Sat g H w.drew :=
  { keep := ⟨h.keep.os, h.keep.tape, h.keep.output, h.keep.size, h.keep.block⟩, fresh := h.fresh, dom := h.dom, bn := h.bn
    at_ := fun n x hn => (h.at_ n x hn).mono (G.le.refl g) (h.dom n x hn) (.inr rfl), own := h.own, lt := h.lt, inj := h.inj, con := h.con }
theorem Sat.same {g : G} {H H' : Heap} {w : World} (h : Sat g H w) (hg : ∀ n, H'.get n = H.get n) (hn : H.nn ≤ H'.nn) : Sat g H' w :=
  { keep := h.keep, fresh := fun n hl => by rw [hg]; exact h.fresh n (Nat.le_trans hn hl), dom := fun n x hx => h.dom n x (by rw [← hg]; exact hx), bn := fun n hb => by obtain ⟨x, hx⟩ := h.bn n hb; exact ⟨x, by rw [hg]; exact hx⟩
    at_ := fun n x hx => h.at_ n x (by rw [← hg]; exact hx), own := fun n x hx => h.own n x (by rw [← hg]; exact hx), lt := fun n x hx => h.lt n x (by rw [← hg]; exact hx)
    inj := fun n n' x x' hx hx' => h.inj n n' x x' (by rw [← hg]; exact hx) (by rw [← hg]; exact hx'), con := fun m x hm => by rw [hg]; exact h.con m x hm }

end Go.Proofs.YtojblnldfdeefaaGreatDoor.Cc

namespace Go.Proofs.YtojblnldfdeefaaGreatDoor.Cc
open Go Go.RowKit

inductive PS where
  | free (i : Nat) (D : List Nat)
  | late (j : Nat) (A : List Nat)
def slot0 : List Oper → Nat
  | o :: _ => match o.dst with | some d => d + 1 | none => 0
  | [] => 0
def hintTab : Nat → Nat → Nat → List PS := fun _ _ _ => []
def hintAt (id : Nat) (ops : List Oper) : List PS := hintTab id ops.length (slot0 ops)

end Go.Proofs.YtojblnldfdeefaaGreatDoor.Cc

namespace Go.Proofs.YtojblnldfdeefaaGreatDoor.Cc
open Go Go.RowKit

structure TyI where
  und : TypeDesc
  size : Nat
  bytes : Nat
  agg : Bool
  zero : V

abbrev TI := TypeId → Option TyI

abbrev Lk := Nat → Option V
def Lk.put (e : Lk) (d : Option Tmp) (x : V) : Lk := fun t => match d with | some d => cond (Nat.beq t d) (some x) (e t) | none => e t
def Lk.only (l : List Nat) (e : Lk) : Lk := fun t => cond (l.contains t) (e t) none

/-! ### constants, operands -/
def const1 : Value → Option V
  | .bool b => some (.bool b)
  | .int k n => some (.int k n)
  | .string s => cond (Nat.ble s.data.toList.length maxLen) (some (.str s.data.toList)) none
  | .pointer none => some .nilp
  | .slice none 0 0 => some .nilS
  | .map none => some .nilM
  | .nilFunc => some .nilF
  | .nilIface => some .nilI
  | _ => none
def constL : List Value → Option (List V)
  | [] => some []
  | v :: vs => match const1 v with
    | some x => (match constL vs with | some xs => some (x :: xs) | none => none)
    | none => none
def constV : Value → Option V
  | .agg vs => (match constL vs.toList with | some xs => some (.agg xs) | none => none)
  | .iface t v => (match const1 v with | some x => some (.iface t x) | none => none)
  | v => const1 v
def evO (ng : Con) (e : Lk) : Operand → Option V
  | .tmp t => e t
  | .const v => constV v
  | .func f => some (.func f [])
  | .global b => cond (Nat.blt b ng.n) (some (.ptr b 0)) none
def evL (ng : Con) (e : Lk) : List Operand → Option (List V)
  | [] => some []
  | o :: os => match evO ng e o with
    | some x => (match evL ng e os with | some xs => some (x :: xs) | none => none)
    | none => none

def aggDesc : TypeDesc → Bool
  | .struct _ => true
  | .array _ _ => true
  | _ => false
def mkTy (P : Program) (T : TypeId) : Option TyI := match P.underlying T, P.info? T with
  | some u, some f => (match f.zero with
    | some z => (match constV z with | some x => some ⟨u, f.size, f.bytes, aggDesc u, x⟩ | none => none)
    | none => none)
  | _, _ => none

def V.val1 : V → Option Value
  | .bool b => some (.bool b)
  | .int k n => some (.int k n)
  | .str s => some (.string ⟨s.toArray⟩)
  | .nilp => some (.pointer none)
  | .nilS => some (.slice none 0 0)
  | .nilM => some (.map none)
  | .nilF => some .nilFunc
  | .nilI => some .nilIface
  | _ => none
def V.valL : List V → Option (List Value)
  | [] => some []
  | x :: xs => match V.val1 x with
    | some v => (match V.valL xs with | some vs => some (v :: vs) | none => none)
    | none => none
def V.val : V → Option Value
  | .agg cs => (match V.valL cs with | some vs => some (.agg vs.toArray) | none => none)
  | .iface t x => (match V.val1 x with | some v => some (.iface t v) | none => none)
  | x => V.val1 x

def pureRun (P : Program) {α : Type} : Sem α → Option α
  | .pure a => some a
  | .program k => pureRun P (k P)
  | .mark _ k => pureRun P k
  | _ => none
def ρE (ng : Con) (e : Lk) (o : Operand) : Value := match evO ng e o with
  | some x => (match x.val with | some v => v | none => Go.undef)
  | none => Go.undef
def plainO (ng : Con) (e : Lk) (o : Operand) : Bool := match evO ng e o with
  | some x => (match x.val with | some _ => true | none => false)
  | none => false
def evS (P : Program) (ng : Con) (e : Lk) (o : Oper) : Option V :=
  cond (o.op.operands.toList.all (plainO ng e)) (match pureRun P (execOp (ρE ng e) o) with
    | some (.value v) => constV v
    | _ => none) none

def evI (op : BinOp) (k : IntKind) (m q : Int) : Option V :=
  match op with
  | .add => some (.int k (k.wrap (m + q)))
  | .sub => some (.int k (k.wrap (m - q)))
  | .mul => some (.int k (k.wrap (m * q)))
  | .lss => some (.bool (decide (m < q)))
  | .leq => some (.bool (decide (m ≤ q)))
  | .gtr => some (.bool (decide (q < m)))
  | .geq => some (.bool (decide (q ≤ m)))
  | .eql => some (.bool (decide (m = q)))
  | .neq => some (.bool (decide (m ≠ q)))
  | _ => none
def isC : Operand → Bool
  | .const _ => true
  | _ => false
def nilCmp (d : TypeDesc) (x y : Operand) (vx vy : V) : Option Bool :=
  match d, vx, vy with
  | .pointer _, .nilp, .nilp => some true
  | .pointer _, .ptr _ _, .nilp => some false
  | .pointer _, .nilp, .ptr _ _ => some false
  | .slice _, .nilS, .nilS => some true
  | .slice _, .sl _ _ _ _, .nilS => some false
  | .slice _, .voidS, .nilS => some false
  | .slice _, .nilS, .sl _ _ _ _ => some false
  | .map _ _, .nilM, .nilM => some true
  | .map _ _, .map _, .nilM => some false
  | .func _ _ _, .nilF, .nilF => some true
  | .func _ _ _, .func _ _, .nilF => some false
  | .interface _, .nilI, .nilI => cond (isC x || isC y) (some true) none
  | .interface _, .iface _ _, .nilI => some false
  | .interface _, .nilI, .iface _ _ => some false
  | _, _, _ => none
def putRow (cs : List V) (o : Nat) (ds : List V) : List V := cs.take o ++ ds ++ cs.drop (o + ds.length)
def fillV (place : Nat → Option (Nat × Nat)) : List V → List (Nat × V) → Option (List V)
  | cs, [] => some cs
  | cs, (i, x) :: rest => match place i with
    | none => none
    | some (off, size) => cond (x.lays && (Nat.beq x.cells.length size && Nat.ble (off + size) cs.length)) (fillV place (putRow cs off x.cells) rest) none
def evParts (ng : Con) (e : Lk) : List (Nat × Operand) → Option (List (Nat × V))
  | [] => some []
  | (i, o) :: ps => match evO ng e o with
    | some x => (match evParts ng e ps with | some xs => some ((i, x) :: xs) | none => none)
    | none => none
def rep (zs : List V) : Nat → List V
  | 0 => []
  | n + 1 => zs ++ rep zs n
def placesOf (ti : TI) : List Field → Option (List (Nat × Nat))
  | [] => some []
  | f :: fs => match ti f.type with
    | some i => (match placesOf ti fs with | some ps => some ((f.offset, i.size) :: ps) | none => none)
    | none => none
def partV (i : TyI) (cs : List V) (off : Nat) : Option V :=
  cond i.agg (cond (Nat.ble (off + i.size) cs.length) (some (.agg ((cs.drop off).take i.size))) none) (cs[off]?)
def boundV (ng : Con) (e : Lk) (d : Nat) : Option Operand → Option Nat
  | none => some d
  | some o => match evO ng e o with
    | some (.int _ (.ofNat n)) => some n
    | _ => none

/-! ### operations that ask nothing of memory -/
def evP_pick (_ : Program) (_ : TI) (ng : Con) (e : Lk) (_ : Oper) (c x y : Operand) : Option V :=
  (match evO ng e c with
    | some (.bool true) => evO ng e x
    | some (.bool false) => evO ng e y
    | _ => none)
def evP_nilCheck (_ : Program) (_ : TI) (ng : Con) (e : Lk) (_o : Oper) (x : Operand) : Option V :=
  (match evO ng e x with
    | some (.ptr n _o) => some (.ptr n _o)
    | some (.func f cs) => some (.func f cs)
    | some (.iface t v) => some (.iface t v)
    | _ => none)
def evP_binOp (P : Program) (ti : TI) (ng : Con) (e : Lk) (o : Oper) (op : BinOp) (T : TypeId) (x y : Operand) : Option V :=
  (match evO ng e x, evO ng e y with
    | some (.int k m), some (.int k' q) => cond (decide (k = k')) (match evI op k m q with
        | some r => some r
        | none => (match pureRun P (binOp op T (.int k m) (.int k' q)) with | some v => const1 v | none => none))
        (match pureRun P (binOp op T (.int k m) (.int k' q)) with | some v => const1 v | none => none)
    | some vx, some vy => (match evS P ng e o with
      | some r => some r
      | none => (match ti T with
        | some i => (match op, nilCmp i.und x y vx vy with
          | .eql, some b => some (.bool b)
          | .neq, some b => some (.bool !b)
          | _, _ => none)
        | none => none))
    | _, _ => none)
def evP_makeInterface (_ : Program) (ti : TI) (ng : Con) (e : Lk) (_ : Oper) (T : TypeId) (x : Operand) : Option V :=
  (match ti T with
    | some i => (match i.und with
      | .interface _ => none
      | _ => (match evO ng e x with | some v => some (.iface T v) | none => none))
    | none => none)
def evP_makeFunc (_ : Program) (_ : TI) (ng : Con) (e : Lk) (_ : Oper) (fn : Fn) (first cap : Array Operand) : Option V :=
  match fn with
  | .func f => cond (first.toList.isEmpty) (match evL ng e cap.toList with | some xs => some (.func f xs) | none => none) (cond (cap.toList.isEmpty) (match evL ng e first.toList with | some xs => some (.meth f xs) | none => none) none)
  | _ => none
def evP_fieldAddr (_ : Program) (ti : TI) (ng : Con) (e : Lk) (_ : Oper) (S : TypeId) (x : Operand) (f : Nat) : Option V :=
  (match ti S with
    | some i => (match i.und with
      | .struct fs => (match fs.toList[f]?, evO ng e x with
        | some fd, some (.ptr n o) => (match ti fd.type with
          | some j => cond (Nat.beq j.size 0) none (some (.ptr n (o + fd.offset)))
          | none => none)
        | _, _ => none)
      | _ => none)
    | none => none)
def evP_field (_ : Program) (ti : TI) (ng : Con) (e : Lk) (_ : Oper) (S : TypeId) (x : Operand) (f : Nat) : Option V :=
  (match ti S with
    | some i => (match i.und with
      | .struct fs => (match fs.toList[f]?, evO ng e x with
        | some fd, some (.agg cs) => (match ti fd.type with
          | some j => partV j cs fd.offset
          | none => none)
        | _, _ => none)
      | _ => none)
    | none => none)
def evP_indexAddr (_ : Program) (ti : TI) (ng : Con) (e : Lk) (_ : Oper) (T : TypeId) (x ix : Operand) : Option V :=
  (match ti T with
    | some i => (match i.und, evO ng e x, evO ng e ix with
      | .slice E, some (.sl _ n o len), some (.int _ (.ofNat m)) => cond (Nat.blt m len) (match ti E with | some j => some (.ptr n (o + m * j.size)) | none => none) none
      | .array N E, some (.ptr n o), some (.int _ (.ofNat m)) => cond (Nat.blt m N) (match ti E with | some j => some (.ptr n (o + m * j.size)) | none => none) none
      | _, _, _ => none)
    | none => none)
def evP_index (P : Program) (ti : TI) (ng : Con) (e : Lk) (o : Oper) (T : TypeId) (x ix : Operand) : Option V :=
  (match ti T with
    | some i => (match i.und, evO ng e x, evO ng e ix with
      | .array N E, some (.agg cs), some (.int _ (.ofNat m)) => cond (Nat.blt m N) (match ti E with | some j => partV j cs (m * j.size) | none => none) none
      | .string, _, _ => evS P ng e o
      | _, _, _ => none)
    | none => none)
def evP_slice (P : Program) (ti : TI) (ng : Con) (e : Lk) (o : Oper) (T : TypeId) (x : Operand) (lo hi mx : Option Operand) : Option V :=
  match mx with
  | none => (match ti T with
    | some i => (match i.und, evO ng e x with
      | .string, _ => evS P ng e o
      | .slice E, some (.sl sz n o len) => (match boundV ng e 0 lo, boundV ng e len hi, ti E with
        | some l, some h, some j => cond (Nat.beq j.size sz && (Nat.ble l h && Nat.ble h len)) (cond (Nat.beq l 0 || Nat.blt l len) (some (.sl sz n (o + l * sz) (h - l))) (some .viewS)) none
        | _, _, _ => none)
      | .slice E, some x => (match x, boundV ng e 0 lo, boundV ng e 0 hi, ti E with
        | .nilS, some 0, some 0, some _ => some .nilS
        | .voidS, some 0, some 0, some _ => some .voidS
        | .viewS, some 0, some 0, some _ => some .viewS
        | _, _, _, _ => none)
      | _, _ => none)
    | none => none)
  | some _ => none
def evP_build (_ : Program) (ti : TI) (ng : Con) (e : Lk) (_ : Oper) (T : TypeId) (parts : Array (Nat × Operand)) : Option V :=
  (match ti T with
    | some i => cond i.zero.lays (match i.und with
      | .struct fs => (match placesOf ti fs.toList, evParts ng e parts.toList with
        | some ps, some qs => (match fillV (fun k => ps[k]?) i.zero.cells qs with | some cs => some (.agg cs) | none => none)
        | _, _ => none)
      | .array _ E => (match ti E, evParts ng e parts.toList with
        | some j, some qs => (match fillV (fun k => some (k * j.size, j.size)) i.zero.cells qs with | some cs => some (.agg cs) | none => none)
        | _, _ => none)
      | _ => none) none
    | none => none)
def evP_extract (_ : Program) (_ : TI) (ng : Con) (e : Lk) (_ : Oper) (x : Operand) (i : Nat) : Option V :=
  (match evO ng e x with
    | some (.tuple cs) => cs[i]?
    | _ => none)
def evP_typeAssert (_ : Program) (ti : TI) (ng : Con) (e : Lk) (_ : Oper) (x : Operand) (A : TypeId) (ok : Bool) : Option V :=
  (match ti A, evO ng e x with
    | some i, some (.iface t v) => (match i.und with
      | .interface _ => none
      | _ => cond (Nat.beq t A) (some (cond ok (.tuple [v, .bool true]) v)) (cond ok (some (.tuple [i.zero, .bool false])) none))
    | some i, some .nilI => (match i.und with
      | .interface _ => none
      | _ => cond ok (some (.tuple [i.zero, .bool false])) none)
    | _, _ => none)
def evP_call (P : Program) (ti : TI) (ng : Con) (e : Lk) (o : Oper) (c : Call) : Option V :=
  match c with
  | { callee := .builtin b, args := as, argTypes := ts } => (match b, as.toList, ts.toList with
    | .len, [x], T :: _ => (match ti T, evO ng e x with
      | some i, some (.sl _ _ _ len) => (match i.und with | .slice _ => some (.int .i64 len) | _ => none)
      | some i, some .nilS => (match i.und with | .slice _ => some (.int .i64 0) | _ => none)
      | some i, some .voidS => (match i.und with | .slice _ => some (.int .i64 0) | _ => none)
      | some i, some .viewS => (match i.und with | .slice _ => some (.int .i64 0) | _ => none)
      | some i, some (.str s) => (match i.und with | .string => some (.int .i64 s.length) | _ => none)
      | some i, some _ => (match i.und with
        | .array N _ => some (.int .i64 N)
        | .pointer A => (match ti A with | some j => (match j.und with | .array N _ => some (.int .i64 N) | _ => none) | none => none)
        | _ => none)
      | _, _ => none)
    | .min, _, _ => evS P ng e o
    | .max, _, _ => evS P ng e o
    | _, _, _ => none)
  | _ => none
def evP (P : Program) (ti : TI) (ng : Con) (e : Lk) (o : Oper) : Option V :=
  match o.op with
  | .move x => evO ng e x
  | .assign x => evO ng e x
  | .pick c x y => evP_pick P ti ng e o c x y
  | .nilCheck x => evP_nilCheck P ti ng e o x
  | .binOp op T x y _ => evP_binOp P ti ng e o op T x y
  | .unOp _ _ _ => evS P ng e o
  | .convert _ _ _ => evS P ng e o
  | .makeInterface T x => evP_makeInterface P ti ng e o T x
  | .makeFunc fn first cap => evP_makeFunc P ti ng e o fn first cap
  | .fieldAddr S x f => evP_fieldAddr P ti ng e o S x f
  | .field S x f => evP_field P ti ng e o S x f
  | .indexAddr T x ix => evP_indexAddr P ti ng e o T x ix
  | .index T x ix => evP_index P ti ng e o T x ix
  | .slice T x lo hi mx => evP_slice P ti ng e o T x lo hi mx
  | .build T parts => evP_build P ti ng e o T parts
  | .extract x i => evP_extract P ti ng e o x i
  | .typeAssert x _ A ok => evP_typeAssert P ti ng e o x A ok
  | .call c => evP_call P ti ng e o c
  | _ => none

/-! ### operations that ask of memory -/
noncomputable def objCells (H : Heap) (n : Nat) : Option (List V) := match H.get n with | some (.cells _ cs _ _) => some cs | _ => none
noncomputable def srcCells (H : Heap) (sz : Nat) : V → Option (List V)
  | .nilS => some []
  | .voidS => some []
  | .viewS => some []
  | .str s => cond (Nat.beq sz 1) (some (s.map fun b => .int .u8 b.toNat)) none
  | .sl sz' m o k => cond (Nat.beq sz' sz) (match objCells H m with
    | some cs => cond (Nat.ble (o + k * sz) cs.length) (some ((cs.drop o).take (k * sz))) none
    | none => none) none
  | _ => none
def roomy : Nat := 140737488355328
noncomputable def evAppend (H : Heap) (E : TypeId) (j : TyI) (x : V) (ys : List V) : Option (V × Heap) :=
  match ys with
  | [] => cond (Nat.blt 0 j.size) (match x with
    | .nilS => some (x, H)
    | .voidS => some (x, H)
    | .sl _ _ _ _ => some (x, H)
    | _ => none) none
  | _ => cond (Nat.blt 0 j.size && (Nat.blt 0 j.bytes && (Nat.beq (Nat.mod ys.length j.size) 0 && ys.all V.one))) (match x with
    | .nilS => cond (Nat.ble (Nat.div ys.length j.size * j.bytes) roomy) (some (.sl j.size H.nn 0 (Nat.div ys.length j.size), H.new (.cells E ys false false))) none
    | .voidS => cond (Nat.ble (Nat.div ys.length j.size * j.bytes) roomy) (some (.sl j.size H.nn 0 (Nat.div ys.length j.size), H.new (.cells E ys false false))) none
    | .sl sz n o len => cond (Nat.beq sz j.size && Nat.ble ((len + Nat.div ys.length sz) * j.bytes) roomy) (match H.get n with
      | some (.cells T cs ex ro) =>
        cond (Nat.ble (o + len * sz + ys.length) cs.length) (cond ro none (some (.sl sz n o (len + Nat.div ys.length sz), H.set n (.cells T (putRow cs (o + len * sz) ys) ex ro))))
          (cond ex (cond (Nat.ble (o + len * sz) cs.length) (some (.sl sz H.nn 0 (len + Nat.div ys.length sz), H.new (.cells E ((cs.drop o).take (len * sz) ++ ys) false false))) none)
            (cond (Nat.beq o 0 && (Nat.beq (len * sz) cs.length && (!ro && Nat.beq T E))) (some (.sl sz H.nn 0 (len + Nat.div ys.length sz), H.move n (.cells T (cs ++ ys) false false))) none))
      | _ => none) none
    | _ => none) none

def bytesV : List V → Option (List UInt8)
  | [] => some []
  | .int .u8 (.ofNat n) :: cs => (match bytesV cs with | some s => some (UInt8.ofNat n :: s) | none => none)
  | _ => none

def V.key : V → V → Option Bool
  | .int k m, .int k' q => cond (decide (k = k')) (some (decide (m = q))) none
  | .str s, .str t => some (decide (s = t))
  | _, _ => none
abbrev CallF := FuncId → List V → Heap → Option (V × Heap)

def isA : Op → Bool
  | .alloc _ | .box _ _ | .buildSlice _ _ _ | .makeSlice _ _ _ => true
  | _ => false
def evA (ti : TI) (ng : Con) (e : Lk) (o : Oper) (n : Nat) : Option (V × O) :=
  match o.op with
  | .alloc T => (match ti T with
    | some i => cond i.zero.lays (some (.ptr n 0, .cells T i.zero.cells true false)) none
    | none => none)
  | .box T x => (match evO ng e x with
    | some v => cond v.lays (some (.ptr n 0, .cells T v.cells true false)) none
    | none => none)
  | .buildSlice T len parts => (match ti T with
    | some i => (match i.und with
      | .slice E => (match ti E, evParts ng e parts.toList with
        | some j, some qs => cond (Nat.ble len 16777216 && (Nat.ble (len * j.size) 16777216 && (j.zero.lays && Nat.beq j.zero.cells.length j.size))) (match fillV (fun k => some (k * j.size, j.size)) (rep j.zero.cells len) qs with
          | some cs => some (.sl j.size n 0 len, .cells E cs true false)
          | none => none) none
        | _, _ => none)
      | _ => none)
    | none => none)
  | .makeSlice T l c => (match ti T with
    | some i => (match i.und, evO ng e l, evO ng e c with
      | .slice E, some (.int _ (.ofNat m)), some (.int _ (.ofNat q)) => (match ti E with
        | some j => cond (Nat.ble m q && (Nat.ble q 1000000 && (Nat.ble j.bytes 1000000 && (j.zero.lays && Nat.beq j.zero.cells.length j.size)))) (some (.sl j.size n 0 m, .cells E (rep j.zero.cells q) true false)) none
        | none => none)
      | _, _, _ => none)
    | none => none)
  | _ => none

def listy : TypeDesc → Bool
  | .slice _ => true
  | .string => true
  | _ => false
noncomputable def evM_load (ti : TI) (ng : Con) (e : Lk) (H : Heap) (T : TypeId) (x : Operand) : Option (V × Heap) :=
  (match evO ng e x, ti T with
    | some (.ptr n o), some i => (match objCells H n with
      | some cs => (match partV i cs o with | some v => some (v, H) | none => none)
      | none => none)
    | _, _ => none)
noncomputable def evM_store (ti : TI) (ng : Con) (e : Lk) (H : Heap) (T : TypeId) (p x : Operand) : Option (V × Heap) :=
  (match evO ng e p, evO ng e x, ti T with
    | some (.ptr n o), some v, some i => (match H.get n with
      | some (.cells S cs ex false) => cond (v.lays && (Nat.beq v.cells.length i.size && Nat.ble (o + i.size) cs.length)) (some (.undef, H.set n (.cells S (putRow cs o v.cells) ex false))) none
      | _ => none)
    | _, _, _ => none)
noncomputable def evM_slice (ti : TI) (ng : Con) (e : Lk) (H : Heap) (T : TypeId) (x : Operand) (lo hi mx : Option Operand) : Option (V × Heap) :=
  match mx with
  | none => (match ti T with
    | some i => (match i.und, evO ng e x with
      | .array N E, some (.ptr n o) => (match boundV ng e 0 lo, boundV ng e N hi, ti E, H.get n with
        | some l, some h, some j, some (.cells _ cs true _) => cond (Nat.beq (o + N * j.size) cs.length && (Nat.ble l h && (Nat.ble h N && (Nat.blt l N && Nat.ble N maxLen)))) (some (.sl j.size n (o + l * j.size) (h - l), H)) none
        | _, _, _, _ => none)
      | _, _ => none)
    | none => none)
  | some _ => none
noncomputable def evM_convert (ti : TI) (ng : Con) (e : Lk) (H : Heap) (S D : TypeId) (x : Operand) : Option (V × Heap) :=
  (match ti S, ti D, evO ng e x with
    | some i, some i', some (.sl sz n o len) => (match i.und, i'.und with
      | .slice E, .string => (match ti E, objCells H n with
        | some j, some cs => (match j.und with
          | .int .u8 => cond (Nat.beq sz 1 && Nat.ble (o + len) cs.length) (match bytesV ((cs.drop o).take len) with | some s => some (.str s, H) | none => none) none
          | _ => none)
        | _, _ => none)
      | _, _ => none)
    | _, _, _ => none)
def isSl : Option V → Bool
  | some (.sl _ _ _ _) => true
  | _ => false
noncomputable def evM_conv2 (ti : TI) (ng : Con) (e : Lk) (H : Heap) (S D : TypeId) (x : Operand) : Option (V × Heap) :=
  (match ti S, ti D with
    | some i, some i' => (match i.und, i'.und, evO ng e x with
      | .string, .slice E, some (.str s) => (match ti E with
        | some j => (match j.und with
          | .int .u8 => cond (Nat.ble s.length 16777216) (some (.sl 1 H.nn 0 s.length, H.new (.cells E (s.map fun b => .int .u8 b.toNat) false false))) none
          | _ => none)
        | none => none)
      | .pointer t, .unsafePointer, some (.ptr n o) => (match ti t, objCells H n with
        | some k, some cs => cond (Nat.blt 0 k.size && Nat.blt o cs.length) (some (.ptr n o, H)) none
        | _, _ => none)
      | .slice E, .string, some .voidS => (match ti E with
        | some j => (match j.und with | .int .u8 => some (.str [], H) | _ => none)
        | none => none)
      | .slice E, .string, some .nilS => (match ti E with
        | some j => (match j.und with | .int .u8 => some (.str [], H) | _ => none)
        | none => none)
      | _, _, _ => none)
    | _, _ => none)
noncomputable def evM_range (ti : TI) (ng : Con) (e : Lk) (H : Heap) (T : TypeId) (x : Operand) : Option (V × Heap) :=
  (match ti T, evO ng e x with
    | some i, some (.str s) => (match i.und with | .string => some (.ptr H.nn 0, H.new (.iter s 0)) | _ => none)
    | _, _ => none)
noncomputable def evM_next (_ : TI) (ng : Con) (e : Lk) (H : Heap) (x : Operand) (b : Bool) : Option (V × Heap) :=
  match b with
  | true => (match evO ng e x with
    | some (.ptr n 0) => (match H.get n with
      | some (.iter s pos) => cond (Nat.blt pos s.length)
        (some (.tuple [.bool true, .int .i64 pos, .int .i32 (Utf8.decode ⟨s.toArray⟩ pos).1], H.set n (.iter s (pos + (Utf8.decode ⟨s.toArray⟩ pos).2))))
        (some (.tuple [.bool false], H))
      | _ => none)
    | _ => none)
  | false => none
noncomputable def evM_builtin (ti : TI) (ng : Con) (e : Lk) (H : Heap) (b : Builtin) (as : Array Operand) (ts : Array TypeId) : Option (V × Heap) :=
  (match b, as.toList, ts.toList with
    | .append, [x, y], [T, T'] => (match ti T, ti T', evO ng e x, evO ng e y with
      | some i, some i', some vx, some vy => (match i.und with
        | .slice E => cond (listy i'.und) (match ti E with
            | some j => (match srcCells H j.size vy with
              | some ys => cond (j.zero.lays && Nat.beq j.zero.cells.length j.size) (evAppend H E j vx ys) none
              | none => none)
            | none => none) none
        | _ => none)
      | _, _, _, _ => none)
    | .copy, [x, y], T :: _ => (match ti T, evO ng e x, evO ng e y with
      | some i, some (.sl sz n o len), some vy => (match i.und with
        | .slice E => (match ti E, srcCells H sz vy, H.get n with
          | some j, some ys, some (.cells S cs ex false) => cond (Nat.blt 0 sz && (Nat.beq j.size sz && (Nat.beq (Nat.mod ys.length sz) 0 && (Nat.ble (o + len * sz) cs.length && ys.all V.one))))
            (some (.int .i64 (Nat.min (Nat.div ys.length sz) len), H.set n (.cells S (putRow cs o (ys.take (Nat.min (Nat.div ys.length sz) len * sz))) ex false))) none
          | _, _, _ => none)
        | _ => none)
      | _, _, _ => none)
    | _, _, _ => none)
noncomputable def evM_value (ng : Con) (call : CallF) (e : Lk) (H : Heap) (f : Operand) (as : Array Operand) : Option (V × Heap) :=
  (match evO ng e f, evL ng e as.toList with
    | some (.func g cap), some xs => call g (xs ++ cap) H
    | some (.meth g fs), some xs => call g (fs ++ xs) H
    | _, _ => none)
noncomputable def evM_call (ti : TI) (ng : Con) (call : CallF) (e : Lk) (H : Heap) (c : Call) : Option (V × Heap) :=
  match c with
  | { callee := .builtin b, args := as, argTypes := ts } => evM_builtin ti ng e H b as ts
  | { callee := .value f, args := as, argTypes := _ } => evM_value ng call e H f as
  | _ => none
noncomputable def evM (ti : TI) (ng : Con) (call : CallF) (e : Lk) (H : Heap) (o : Oper) : Option (V × Heap) :=
  match o.op with
  | .load T x => evM_load ti ng e H T x
  | .store T p x => evM_store ti ng e H T p x
  | .slice T x lo hi mx => evM_slice ti ng e H T x lo hi mx
  | .convert S D x => cond (isSl (evO ng e x)) (evM_convert ti ng e H S D x) (evM_conv2 ti ng e H S D x)
  | .range T x => evM_range ti ng e H T x
  | .next x b => evM_next ti ng e H x b
  | .call c => evM_call ti ng call e H c
  | _ => none
noncomputable def evStep (P : Program) (ti : TI) (ng : Con) (call : CallF) (e : Lk) (H : Heap) (o : Oper) : Option (V × Heap) :=
  match evP P ti ng e o with
  | some x => some (x, H)
  | none => cond (isA o.op) (match evA ti ng e o H.nn with | some (x, b) => some (x, H.new b) | none => none) (evM ti ng call e H o)

/-! ### regions -/
def wantedV (ops : List Oper) (e : Lk) (o : Oper) : Option Bool :=
  match o.guard with
  | none => some true
  | some (j, want) => (match ops[j]? with
    | some p => (match p.dst with
      | some d => (match e d with
        | some (.bool b) => some (b == want)
        | some .undef => some false
        | _ => none)
      | none => none)
    | none => none)
noncomputable def putT (e : Tr V) (n : Nat) (d : Option Tmp) (x : V) : Option (Tr V) := match d with
  | some d => cond (Nat.blt d n) (some (e.set d x)) none
  | none => some e
abbrev DV := FuncId × List V
def evDef (ng : Con) (e : Lk) (o : Oper) : Option DV := match o.op with
  | .defer { callee := .value f, args := as, argTypes := _ } => (match evO ng e f, evL ng e as.toList with
    | some (.func g cap), some xs => some (g, xs ++ cap)
    | _, _ => none)
  | _ => none
noncomputable def evOps (P : Program) (ti : TI) (ng : Con) (n : Nat) (call : CallF) (ops : List Oper) : List Oper → List DV → Tr V → Heap → Option (List DV × Tr V × Heap)
  | [], D, e, H => some (D, e, H)
  | o :: l, D, e, H => match wantedV ops e.get o with
    | some true => (match evStep P ti ng call e.get H o with
      | some (x, H') => (match putT e n o.dst x with | some e' => evOps P ti ng n call ops l D e' H' | none => none)
      | none => (match evDef ng e.get o with
        | some d => (match putT e n o.dst .undef with | some e' => evOps P ti ng n call ops l (d :: D) e' H | none => none)
        | none => none))
    | some false => (match putT e n o.dst .undef with | some e' => evOps P ti ng n call ops l D e' H | none => none)
    | none => none

/-! A region that draws its order: a plan. 'free i D': operation i may be taken at once, whatever comes up beside it (D: those that wait for it); 'late j A': all that may come up beside j (A) are such as make a block and nothing else. -/
def waits (o : Oper) (i : Nat) (D : List Nat) : Bool := o.after.toList.any fun e => Region.binds .any e && (Nat.beq e.on i || D.contains e.on)
def afterD (i : Nat) : List Oper → Nat → List Nat → List Nat
  | [], _, D => D
  | o :: os, j, D => afterD i os (j + 1) (cond (waits o i D) (j :: D) D)
def freeB (ops : Array Oper) (listed : Array Bool) (i : Nat) (D : List Nat) : Bool :=
  match ops[i]? with
  | none => false
  | some oi => D.all (fun j => !(listed.getD j true) && (match ops[j]? with | some oj => waits oj i D | none => false)) &&
    (List.range ops.size).all fun j => j == i || listed.getD j true || D.contains j || (match ops[j]? with | some oj => oi.apart ops oj | none => true)
def easy : Op → Bool
  | .move _ | .assign _ | .pick _ _ _ | .nilCheck _ | .binOp _ _ _ _ _ | .unOp _ _ _ | .convert _ _ _ | .makeInterface _ _ | .makeFunc _ _ _ | .fieldAddr _ _ _ | .field _ _ _ | .indexAddr _ _ _
  | .index _ _ _ | .slice _ _ _ _ _ | .build _ _ | .extract _ _ | .typeAssert _ _ _ _ | .load _ _ => true
  | .call { callee := .builtin .len, .. } | .call { callee := .builtin .min, .. } | .call { callee := .builtin .max, .. } => true
  | _ => false
def findFree (ops : Array Oper) (listed : Array Bool) : List Nat → Option PS
  | [] => none
  | i :: r => cond (match ops[i]? with | some o => easy o.op && freeB ops listed i (afterD i ops.toList 0 []) | none => false) (some (.free i (afterD i ops.toList 0 []))) (findFree ops listed r)
def setAll (listed : Array Bool) : List Nat → Array Bool
  | [] => listed
  | i :: r => setAll (listed.setIfInBounds i true) r
def lateB (ops : Array Oper) (listed : Array Bool) (j : Nat) (A : List Nat) : Bool :=
  (Region.ready .any ops listed).contains j && ((Region.ready .any ops listed).all (fun i => i == j || A.contains i) &&
    (A.all (fun i => !(i == j) && (match ops[i]?, ops[j]? with | some oi, some oj => isA oi.op && oi.apart ops oj | _, _ => false)) &&
    Region.ready .any ops (setAll listed A) == [j]))
def pickLate (ops : Array Oper) (listed : Array Bool) (rd : List Nat) : List Nat → Option Nat
  | [] => none
  | i :: r => cond (lateB ops listed i (rd.filter fun k => !(k == i))) (some i) (pickLate ops listed rd r)
def mkPlan (ops : Array Oper) : Nat → Array Bool → List PS
  | 0, _ => []
  | f + 1, listed => match findFree ops listed (Region.ready .any ops listed) with
    | some (.free i D) => .free i D :: mkPlan ops f (listed.setIfInBounds i true)
    | _ => (match pickLate ops listed (Region.ready .any ops listed) (Region.ready .any ops listed) with
      | some j => .late j ((Region.ready .any ops listed).filter fun i => !(i == j)) :: mkPlan ops f (listed.setIfInBounds j true)
      | none => [])
def planOK (ops : Array Oper) : List PS → Array Bool → Bool
  | [], listed => (Region.ready .any ops listed).isEmpty
  | .free i D :: r, listed => (Region.ready .any ops listed).contains i && (freeB ops listed i D && planOK ops r (listed.setIfInBounds i true))
  | .late j A :: r, listed => lateB ops listed j A && planOK ops r (listed.setIfInBounds j true)
structure Ob where
  D : List Nat
  n : Nat
  o : Nat
  T : TypeId
  x : V
mutual
def V.beq : V → V → Bool
  | .bool a, .bool b => a == b
  | .int k m, .int k' q => decide (k = k') && decide (m = q)
  | .str s, .str t => decide (s = t)
  | .nilp, .nilp => true
  | .ptr n o, .ptr n' o' => Nat.beq n n' && Nat.beq o o'
  | .nilS, .nilS => true
  | .voidS, .voidS => true
  | .sl a b c d, .sl a' b' c' d' => Nat.beq a a' && (Nat.beq b b' && (Nat.beq c c' && Nat.beq d d'))
  | .nilM, .nilM => true
  | .map n, .map n' => Nat.beq n n'
  | .func f cs, .func f' cs' => Nat.beq f f' && V.beqL cs cs'
  | .meth f cs, .meth f' cs' => Nat.beq f f' && V.beqL cs cs'
  | .nilF, .nilF => true
  | .iface t v, .iface t' v' => Nat.beq t t' && V.beq v v'
  | .nilI, .nilI => true
  | .agg cs, .agg cs' => V.beqL cs cs'
  | .tuple cs, .tuple cs' => V.beqL cs cs'
  | _, _ => false
def V.beqL : List V → List V → Bool
  | [], [] => true
  | x :: xs, y :: ys => V.beq x y && V.beqL xs ys
  | _, _ => false
end
noncomputable def loadV (ti : TI) (H : Heap) (n o : Nat) (T : TypeId) : Option V := match ti T, objCells H n with
  | some i, some cs => partV i cs o
  | _, _ => none
noncomputable def Ob.holds (ti : TI) (H : Heap) (b : Ob) : Bool := match loadV ti H b.n b.o b.T with | some y => V.beq y b.x | none => false
noncomputable def freeName (H : Heap) (n : Nat) : Bool := (match H.get n with | some _ => false | none => true) && Nat.blt n H.nn
noncomputable def evR (P : Program) (ti : TI) (ng : Con) (call : CallF) (ops : List Oper) (r0 : Nat) (e : Lk) (H : Heap) (i : Nat) (o : Oper) : Option (V × Heap) :=
  match wantedV ops e o with
  | some true => cond (isA o.op) (cond (freeName H (r0 + i)) (match evA ti ng e o (r0 + i) with | some (x, b) => some (x, H.set (r0 + i) b) | none => none) none) (match evP P ti ng e o with | some x => some (x, H) | none => evM ti ng call e H o)
  | some false => some (.undef, H)
  | none => none
noncomputable def evFree (P : Program) (ti : TI) (ng : Con) (ops : List Oper) (e : Lk) (H : Heap) (D : List Nat) (o : Oper) : Option (V × List Ob) :=
  match wantedV ops e o with
  | some true => (match evP P ti ng e o with
    | some x => some (x, [])
    | none => (match o.op with
      | .load T p => (match evO ng e p with
        | some (.ptr n k) => (match loadV ti H n k T with | some x => cond (V.beq x x) (some (x, [⟨D, n, k, T, x⟩])) none | none => none)
        | _ => none)
      | _ => none))
  | some false => some (.undef, [])
  | none => none
noncomputable def evPlan (P : Program) (ti : TI) (ng : Con) (n : Nat) (call : CallF) (ops : List Oper) (r0 : Nat) : List PS → List Ob → Tr V → Heap → Option (Tr V × Heap)
  | [], _, e, H => some (e, H)
  | .free i D :: l, ob, e, H => (match ops[i]? with
    | some o => (match evFree P ti ng ops (Lk.only (o.looksAt ops.toArray) e.get) H D o with
      | some (x, ob') => (match putT e n o.dst x with | some e' => evPlan P ti ng n call ops r0 l (ob' ++ ob) e' H | none => none)
      | none => none)
    | none => none)
  | .late j A :: l, ob, e, H => cond (A.all fun i => freeName H (r0 + i)) (match ops[j]? with
    | some o => (match evR P ti ng call ops r0 (Lk.only (o.looksAt ops.toArray) e.get) H j o with
      | some (x, H') => cond (ob.all fun b => b.D.contains j || b.holds ti H') (match putT e n o.dst x with | some e' => evPlan P ti ng n call ops r0 l ob e' H' | none => none) none
      | none => none)
    | none => none) none

/-! ### code -/
inductive Ex where
  | normal
  | exit (id : Nat)
  | ret
noncomputable def planFor (id : Nat) (ops : Array Oper) : List PS :=
  match hintAt id ops.toList with
  | [] => mkPlan ops ops.toList.length (Array.replicate ops.size false)
  | p => p
noncomputable def evReg (P : Program) (ti : TI) (ng : Con) (call : CallF) (n id : Nat) (ops : Array Oper) (draw : Bool) (D : List DV) (e : Tr V) (H : Heap) : Option (Ex × List DV × Tr V × Heap) :=
  cond draw
        (cond (Nat.beq (planFor id ops).length ops.toList.length && planOK ops (planFor id ops) (Array.replicate ops.size false))
          (match evPlan P ti ng n call ops.toList H.nn (planFor id ops) [] e ⟨H.t, H.nn + ops.toList.length⟩ with | some (e', H') => some (.normal, D, e', H') | none => none) none)
        (match evOps P ti ng n call ops.toList ops.toList D e H with | some (D', e', H') => some (.normal, D', e', H') | none => none)
noncomputable def evC (P : Program) (ti : TI) (ng : Con) (call : CallF) (n : Nat) : Nat → Code → List DV → Tr V → Heap → Option (Ex × List DV × Tr V × Heap)
  | 0, _, _, _, _ => none
  | f + 1, c, D, e, H => match c with
    | .skip => some (.normal, D, e, H)
    | .label _ => some (.normal, D, e, H)
    | .region id ops draw => evReg P ti ng call n id ops draw D e H
    | .seq a b => (match evC P ti ng call n f a D e H with
      | some (.normal, D', e', H') => evC P ti ng call n f b D' e' H'
      | r => r)
    | .cond c x y => (match evO ng e.get c with
      | some (.bool true) => evC P ti ng call n f x D e H
      | some (.bool false) => evC P ti ng call n f y D e H
      | _ => none)
    | .block id b => (match evC P ti ng call n f b D e H with
      | some (.exit i, D', e', H') => cond (Nat.beq i id) (some (.normal, D', e', H')) (some (.exit i, D', e', H'))
      | r => r)
    | .loop b => (match evC P ti ng call n f b D e H with
      | some (.normal, D', e', H') => evC P ti ng call n f (.loop b) D' e' H'
      | r => r)
    | .scope b => evC P ti ng call n f b D e H
    | .exit id => some (.exit id, D, e, H)
    | .ret => some (.ret, D, e, H)
    | _ => none

/-! ### calls -/
structure FnI where
  body : Code
  ntmps : Nat
  results : List ResultVar
def fnOf (P : Program) (f : FuncId) : Option FnI := match P.funcs[f]? with
  | some fn => (match fn.body with | some c => some ⟨c, fn.ntmps, fn.results.toList⟩ | none => none)
  | none => none
noncomputable def resV (ti : TI) (e : Lk) (H : Heap) : ResultVar → Option V
  | .tmp t => e t
  | .cell d T => match e d, ti T with
    | some (.ptr n o), some i => (match objCells H n with
      | some cs => partV i cs o
      | none => none)
    | _, _ => none
noncomputable def resL (ti : TI) (e : Lk) (H : Heap) : List ResultVar → Option (List V)
  | [] => some []
  | r :: rs => match resV ti e H r with
    | some x => (match resL ti e H rs with | some xs => some (x :: xs) | none => none)
    | none => none
def packV : List V → V
  | [x] => x
  | xs => .tuple xs
noncomputable def argT : Nat → List V → Tr V → Tr V
  | _, [], t => t
  | i, x :: xs, t => argT (i + 1) xs (t.set i x)
noncomputable def evBody (P : Program) (ti : TI) (ng : Con) (call : CallF) (g : FuncId) (xs : List V) (H : Heap) : Option (List DV × Tr V × Heap × List ResultVar) :=
  match fnOf P g with
  | some fi => cond (Nat.ble xs.length fi.ntmps) (match evC P ti ng call fi.ntmps 100000 fi.body [] (argT 0 xs .leaf) H with
    | some (.exit _, _, _, _) => none
    | some (_, D, e, H') => some (D, e, H', fi.results)
    | none => none) none
  | none => none
noncomputable def evD (P : Program) (ti : TI) (ng : Con) (call : CallF) (g : FuncId) (xs : List V) (H : Heap) : Option (V × Heap) :=
  match evBody P ti ng call g xs H with
  | some ([], e, H', rs) => (match resL ti e.get H' rs with | some r => some (packV r, H') | none => none)
  | _ => none
noncomputable def evDs (P : Program) (ti : TI) (ng : Con) (idl : FuncId → List V → Bool) (call : CallF) : List DV → Heap → Option Heap
  | [], H => some H
  | d :: D, H => cond (idl d.1 d.2) (evDs P ti ng idl call D H) (match evD P ti ng call d.1 d.2 H with
    | some (_, H') => evDs P ti ng idl call D H'
    | none => none)
noncomputable def evF (P : Program) (ti : TI) (ng : Con) (idl : FuncId → List V → Bool) (isM : FuncId → List V → Bool) (mod : CallF → CallF) : Nat → CallF
  | 0, _, _, _ => none
  | f + 1, g, xs, H => cond (isM g xs) (mod (evF P ti ng idl isM mod f) g xs H) (match evBody P ti ng (evF P ti ng idl isM mod f) g xs H with
      | some (D, e, H1, rs) => (match evDs P ti ng idl (evF P ti ng idl isM mod f) D H1 with
        | some H' => (match resL ti e.get H' rs with | some r => some (packV r, H') | none => none)
        | none => none)
      | none => none)

end Go.Proofs.YtojblnldfdeefaaGreatDoor.Cc
