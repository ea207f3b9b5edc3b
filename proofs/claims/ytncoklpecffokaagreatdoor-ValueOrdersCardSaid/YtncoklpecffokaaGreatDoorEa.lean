/-
  The evaluator of closed calls, part 1: values as data ('V'), tries ('Tr'), memory as data ('Heap'), and what holds of a world between them ('Sat').
  Every block bears a name; names are numbers, in the order in which the blocks were made. Nothing of the program is named here.
-/
import Derived.WalkKit
namespace Go.Proofs.YtncoklpecffokaaGreatDoor.Cc
open Go Go.RowKit

/-! ### tries on numbers -/
inductive Tr (α : Type) where
  | leaf
  | node (x : Option α) (l r : Tr α)
noncomputable def Tr.get {α : Type} (t : Tr α) : Nat → Option α :=
  Tr.rec (motive := fun _ => Nat → Option α) (fun _ => none)
    (fun x _ _ gl gr k => Nat.rec (motive := fun _ => Option α) x (fun k _ => Bool.rec (motive := fun _ => Option α) (gr (Nat.div k 2)) (gl (Nat.div k 2)) (Nat.beq (Nat.mod k 2) 0)) k) t
theorem Tr.get_leaf {α : Type} (k : Nat) : (Tr.leaf : Tr α).get k = none := rfl
theorem Tr.get_zero {α : Type} (x : Option α) (l r : Tr α) : (Tr.node x l r).get 0 = x := rfl
theorem Tr.get_succ {α : Type} (x : Option α) (l r : Tr α) (k : Nat) : (Tr.node x l r).get (k + 1) = cond (Nat.beq (Nat.mod k 2) 0) (l.get (Nat.div k 2)) (r.get (Nat.div k 2)) := by
  show (Bool.rec (motive := fun _ => Option α) (r.get (Nat.div k 2)) (l.get (Nat.div k 2)) (Nat.beq (Nat.mod k 2) 0) : Option α) = _
  cases Nat.beq (Nat.mod k 2) 0 <;> rfl
noncomputable def Tr.put {α : Type} (f : Nat) : Tr α → Nat → α → Tr α :=
  Nat.rec (motive := fun _ => Tr α → Nat → α → Tr α) (fun t _ _ => t)
    (fun _ ih t k v => Tr.rec (motive := fun _ => Tr α)
      (Nat.rec (motive := fun _ => Tr α) (.node (some v) .leaf .leaf)
        (fun k _ => Bool.rec (motive := fun _ => Tr α) (.node none .leaf (ih .leaf (Nat.div k 2) v)) (.node none (ih .leaf (Nat.div k 2) v) .leaf) (Nat.beq (Nat.mod k 2) 0)) k)
      (fun x l r _ _ => Nat.rec (motive := fun _ => Tr α) (.node (some v) l r)
        (fun k _ => Bool.rec (motive := fun _ => Tr α) (.node x l (ih r (Nat.div k 2) v)) (.node x (ih l (Nat.div k 2) v) r) (Nat.beq (Nat.mod k 2) 0)) k) t) f
theorem Tr.put_leaf0 {α : Type} (f : Nat) (v : α) : Tr.put (f + 1) .leaf 0 v = .node (some v) .leaf .leaf := rfl
theorem Tr.put_leaf1 {α : Type} (f k : Nat) (v : α) : Tr.put (f + 1) .leaf (k + 1) v = cond (Nat.beq (Nat.mod k 2) 0) (.node none (Tr.put f .leaf (Nat.div k 2) v) .leaf) (.node none .leaf (Tr.put f .leaf (Nat.div k 2) v)) := by
  show (Bool.rec (motive := fun _ => Tr α) (.node none .leaf (Tr.put f .leaf (Nat.div k 2) v)) (.node none (Tr.put f .leaf (Nat.div k 2) v) .leaf) (Nat.beq (Nat.mod k 2) 0) : Tr α) = _
  cases Nat.beq (Nat.mod k 2) 0 <;> rfl
theorem Tr.put_node0 {α : Type} (f : Nat) (x : Option α) (l r : Tr α) (v : α) : Tr.put (f + 1) (.node x l r) 0 v = .node (some v) l r := rfl
theorem Tr.put_node1 {α : Type} (f k : Nat) (x : Option α) (l r : Tr α) (v : α) : Tr.put (f + 1) (.node x l r) (k + 1) v = cond (Nat.beq (Nat.mod k 2) 0) (.node x (Tr.put f l (Nat.div k 2) v) r) (.node x l (Tr.put f r (Nat.div k 2) v)) := by
  show (Bool.rec (motive := fun _ => Tr α) (.node x l (Tr.put f r (Nat.div k 2) v)) (.node x (Tr.put f l (Nat.div k 2) v) r) (Nat.beq (Nat.mod k 2) 0) : Tr α) = _
  cases Nat.beq (Nat.mod k 2) 0 <;> rfl
noncomputable def Tr.set {α : Type} (t : Tr α) (k : Nat) (v : α) : Tr α := Tr.put (k + 1) t k v

theorem parity {i j : Nat} (h1 : Nat.beq (Nat.mod i 2) 0 = Nat.beq (Nat.mod j 2) 0) (h2 : Nat.div i 2 = Nat.div j 2) : i = j := by
  have e1 : i % 2 = 0 ↔ j % 2 = 0 := by
    have a : ∀ m : Nat, Nat.beq (Nat.mod m 2) 0 = true ↔ m % 2 = 0 := fun m => ⟨fun h => Nat.eq_of_beq_eq_true h, fun h => by show Nat.beq (m % 2) 0 = true; rw [h]; rfl⟩
    rw [← a, ← a, h1]
  have e2 : i / 2 = j / 2 := h2
  omega
theorem Tr.get_put {α : Type} : ∀ (f : Nat) (t : Tr α) (k : Nat) (v : α), k < f → ∀ j, (Tr.put f t k v).get j = if j = k then some v else t.get j
  | 0, _, _, _, h, _ => absurd h (Nat.not_lt_zero _)
  | f + 1, t, 0, v, _, j => by
    cases t with
    | leaf =>
      cases j with
      | zero => rfl
      | succ j =>
        rw [Tr.put_leaf0, Tr.get_succ]
        cases Nat.beq (Nat.mod j 2) 0 <;> simp [Tr.get_leaf]
    | node x l r =>
      cases j with
      | zero => rfl
      | succ j => rw [Tr.put_node0, Tr.get_succ, Tr.get_succ]; simp
  | f + 1, t, k + 1, v, h, j => by
    have hk : Nat.div k 2 < f := by
      have : k / 2 ≤ k := Nat.div_le_self k 2
      show k / 2 < f
      omega
    have ih := fun t => Tr.get_put f t (Nat.div k 2) v hk
    have same : ∀ j, Nat.beq (Nat.mod k 2) 0 = Nat.beq (Nat.mod j 2) 0 → (Nat.div j 2 = Nat.div k 2 ↔ j + 1 = k + 1) := fun j hb => ⟨fun e => by rw [parity (i := j) (j := k) hb.symm e], fun e => by rw [Nat.succ.inj e]⟩
    have other : ∀ j, Nat.beq (Nat.mod k 2) 0 ≠ Nat.beq (Nat.mod j 2) 0 → ¬ (j + 1 = k + 1) := fun j hb e => hb (by rw [Nat.succ.inj e])
    cases t with
    | leaf =>
      rw [Tr.put_leaf1]
      cases hb : Nat.beq (Nat.mod k 2) 0 with
      | true =>
        simp only [cond_true]
        cases j with
        | zero => simp [Tr.get_zero, Tr.get_leaf]
        | succ j =>
          rw [Tr.get_succ, Tr.get_leaf]
          cases hj : Nat.beq (Nat.mod j 2) 0 with
          | true =>
            simp only [cond_true, ih, Tr.get_leaf]
            simp only [same j (by rw [hb, hj])]
          | false => rw [if_neg (other j (by rw [hb, hj]; decide))]; rfl
      | false =>
        simp only [cond_false]
        cases j with
        | zero => simp [Tr.get_zero, Tr.get_leaf]
        | succ j =>
          rw [Tr.get_succ, Tr.get_leaf]
          cases hj : Nat.beq (Nat.mod j 2) 0 with
          | false =>
            simp only [cond_false, ih, Tr.get_leaf]
            simp only [same j (by rw [hb, hj])]
          | true => rw [if_neg (other j (by rw [hb, hj]; decide))]; rfl
    | node x l r =>
      rw [Tr.put_node1]
      cases hb : Nat.beq (Nat.mod k 2) 0 with
      | true =>
        simp only [cond_true]
        cases j with
        | zero => simp [Tr.get_zero]
        | succ j =>
          rw [Tr.get_succ, Tr.get_succ]
          cases hj : Nat.beq (Nat.mod j 2) 0 with
          | true =>
            simp only [cond_true, ih]
            simp only [same j (by rw [hb, hj])]
          | false => rw [if_neg (other j (by rw [hb, hj]; decide))]; rfl
      | false =>
        simp only [cond_false]
        cases j with
        | zero => simp [Tr.get_zero]
        | succ j =>
          rw [Tr.get_succ, Tr.get_succ]
          cases hj : Nat.beq (Nat.mod j 2) 0 with
          | false =>
            simp only [cond_false, ih]
            simp only [same j (by rw [hb, hj])]
          | true => rw [if_neg (other j (by rw [hb, hj]; decide))]; rfl
theorem Tr.get_set {α : Type} (t : Tr α) (k : Nat) (v : α) (j : Nat) : (t.set k v).get j = if j = k then some v else t.get j := Tr.get_put _ t k v (Nat.lt_succ_self k) j

/-! ### values -/
/-- A value as data: 'ptr n o': cell o of the block named n; 'sl sz n o len': a slice into it, of elements of sz cells; 'voidS': an empty slice of no room that is not nil; 'viewS': an empty slice of whatever room. -/
inductive V where
  | bool (b : Bool)
  | int (k : IntKind) (n : Int)
  | str (s : List UInt8)
  | nilp
  | ptr (n o : Nat)
  | nilS
  | voidS
  | viewS
  | sl (sz n o len : Nat)
  | nilM
  | map (n : Nat)
  | func (f : FuncId) (cs : List V)
  | nilF
  | iface (t : TypeId) (v : V)
  | nilI
  | agg (cs : List V)
  | tuple (cs : List V)
  | undef

def V.cells : V → List V
  | .agg cs => cs
  | v => [v]
/-- A datum that is one cell. -/
def V.one : V → Bool
  | .agg _ | .tuple _ | .undef => false
  | _ => true
/-- A datum that may be laid into cells. -/
def V.lays : V → Bool
  | .agg cs => cs.all V.one
  | v => v.one

/-- An object: a row of cells ('ex': no more than these; 'ro': never written), a map, a string that is ranged over, one that is gone. -/
inductive O where
  | cells (T : TypeId) (cs : List V) (ex ro : Bool)
  | map (es : List (V × V))
  | iter (s : List UInt8) (pos : Nat)
  | gone
/-- May it be written? -/
def O.own : O → Bool
  | .cells _ _ _ ro => !ro
  | .gone => false
  | _ => true

/-- Old blocks as they were; the streams too. -/
structure Grow (w w' : World) : Prop where
  os : w'.os = w.os
  tape : w'.tape = w.tape
  output : w'.output = w.output
  size : w.heap.size ≤ w'.heap.size
  block : ∀ k, k < w.heap.size → w'.heap[k]? = w.heap[k]?
theorem Grow.refl (w : World) : Grow w w := ⟨rfl, rfl, rfl, Nat.le_refl _, fun _ _ => rfl⟩
theorem Grow.trans {a b c : World} (h : Grow a b) (k : Grow b c) : Grow a c :=
  ⟨k.os.trans h.os, k.tape.trans h.tape, k.output.trans h.output, Nat.le_trans h.size k.size, fun i hi => (k.block i (Nat.lt_of_lt_of_le hi h.size)).trans (h.block i hi)⟩

/-- The constants of memory: the package variables (names below n) and what they point to: never written. -/
structure Con where
  n : Nat
  con : Nat → Option O
  ro : ∀ m x, con m = some x → x.own = false
  inv : World → Prop
  up : ∀ w w', Grow w w' → inv w → inv w'

/-- 'bn': the names that are given; 'nm': their blocks; 'vs': how many cells these have. -/
structure G where
  base : World
  ng : Con
  bn : Nat → Bool
  nm : Nat → Nat
  vs : Nat → Nat
  gl : ∀ b, b < ng.n → bn b = true ∧ nm b = b
  hinv : ng.inv base

structure G.le (g g' : G) : Prop where
  base : g'.base = g.base
  ng : g'.ng = g.ng
  bn : ∀ n, g.bn n = true → g'.bn n = true
  nm : ∀ n, g.bn n = true → g'.nm n = g.nm n
  vs : ∀ n, g.bn n = true → g'.vs n = g.vs n
theorem G.le.refl (g : G) : g.le g := ⟨rfl, rfl, fun _ h => h, fun _ _ => rfl, fun _ _ => rfl⟩
theorem G.le.trans {a b c : G} (h : a.le b) (l : b.le c) : a.le c :=
  ⟨l.base.trans h.base, l.ng.trans h.ng, fun n hn => l.bn n (h.bn n hn), fun n hn => (l.nm n (h.bn n hn)).trans (h.nm n hn), fun n hn => (l.vs n (h.bn n hn)).trans (h.vs n hn)⟩

/-- The value 'v' stands for the data 'a'. -/
inductive RelV (g : G) : V → Value → Prop
  | bool (b) : RelV g (.bool b) (.bool b)
  | int (k n) : RelV g (.int k n) (.int k n)
  | str (s : List UInt8) (h : s.length ≤ maxLen) : RelV g (.str s) (.string ⟨s.toArray⟩)
  | nilp : RelV g .nilp (.pointer none)
  | ptr (n o) (h : g.bn n = true) : RelV g (.ptr n o) (.pointer (some ⟨g.nm n, o, none⟩))
  | nilS : RelV g .nilS (.slice none 0 0)
  | voidS (a : Addr) : RelV g .voidS (.slice (some a) 0 0)
  | viewS (a : Option Addr) (c) (hc : c ≤ maxLen) : RelV g .viewS (.slice a 0 c)
  | sl (sz n o len cap) (h : g.bn n = true) (hv : o + cap * sz = g.vs n) (hl : len ≤ cap) (hc : cap ≤ maxLen) : RelV g (.sl sz n o len) (.slice (some ⟨g.nm n, o, none⟩) len cap)
  | nilM : RelV g .nilM (.map none)
  | map (n) (h : g.bn n = true) : RelV g (.map n) (.map (some (g.nm n)))
  | func (f : FuncId) (cs : List V) (vs : Array Value) (hn : cs.length = vs.size) (hr : ∀ (i : Nat) c v, cs[i]? = some c → vs[i]? = some v → RelV g c v) : RelV g (.func f cs) (.func (.func f) #[] vs)
  | nilF : RelV g .nilF .nilFunc
  | iface (t a v) (h : RelV g a v) : RelV g (.iface t a) (.iface t v)
  | nilI : RelV g .nilI .nilIface
  | agg (cs : List V) (vs : Array Value) (hn : cs.length = vs.size) (hr : ∀ (i : Nat) c v, cs[i]? = some c → vs[i]? = some v → RelV g c v) : RelV g (.agg cs) (.agg vs)
  | tuple (cs : List V) (vs : Array Value) (hn : cs.length = vs.size) (hr : ∀ (i : Nat) c v, cs[i]? = some c → vs[i]? = some v → RelV g c v) : RelV g (.tuple cs) (.tuple vs)
  | undef : RelV g .undef Go.undef

theorem RelV.mono {g g' : G} (h : g.le g') {a : V} {v : Value} (k : RelV g a v) : RelV g' a v := by
  induction k with
  | bool b => exact .bool b
  | int k n => exact .int k n
  | str s hs => exact .str s hs
  | nilp => exact .nilp
  | ptr n o hn => rw [← h.nm n hn]; exact .ptr n o (h.bn n hn)
  | nilS => exact .nilS
  | voidS a => exact .voidS a
  | viewS a c hc => exact .viewS a c hc
  | sl sz n o len cap hn hv hl hc => rw [← h.nm n hn]; exact .sl sz n o len cap (h.bn n hn) (by rw [h.vs n hn]; exact hv) hl hc
  | nilM => exact .nilM
  | map n hn => rw [← h.nm n hn]; exact .map n (h.bn n hn)
  | func f cs vs hn _ ih => exact .func f cs vs hn ih
  | nilF => exact .nilF
  | iface t a v _ ih => exact .iface t a v ih
  | nilI => exact .nilI
  | agg cs vs hn _ ih => exact .agg cs vs hn ih
  | tuple cs vs hn _ ih => exact .tuple cs vs hn ih
  | undef => exact .undef

/-- A row of cells stands for a row of data. -/
def RelCells (g : G) (cs : List V) (vs : Array Value) : Prop := cs.length = vs.size ∧ ∀ (i : Nat) c v, cs[i]? = some c → vs[i]? = some v → RelV g c v
theorem RelCells.mono {g g' : G} (h : g.le g') {cs : List V} {vs : Array Value} (k : RelCells g cs vs) : RelCells g' cs vs := ⟨k.1, fun i c v hc hv => (k.2 i c v hc hv).mono h⟩
theorem RelCells.at {g : G} {cs : List V} {vs : Array Value} (k : RelCells g cs vs) {i : Nat} {c : V} (hc : cs[i]? = some c) : ∃ v, vs[i]? = some v ∧ RelV g c v := by
  have hi : i < cs.length := (List.getElem?_eq_some_iff.1 hc).1
  have hv : vs[i]? = some (vs[i]'(by have := k.1; omega)) := Array.getElem?_eq_getElem _
  exact ⟨_, hv, k.2 i c _ hc hv⟩
theorem RelCells.nil (g : G) : RelCells g [] #[] := ⟨rfl, fun i c v hc _ => by simp at hc⟩
theorem RelCells.append {g : G} {cs ds : List V} {vs us : Array Value} (h : RelCells g cs vs) (k : RelCells g ds us) : RelCells g (cs ++ ds) (vs ++ us) := by
  refine ⟨by simp [h.1, k.1], fun i c v hc hv => ?_⟩
  rw [List.getElem?_append] at hc
  rw [Array.getElem?_append] at hv
  rw [h.1] at hc
  split at hc
  · rename_i hlt; rw [if_pos hlt] at hv; exact h.2 i c v hc hv
  · rename_i hlt; rw [if_neg hlt] at hv; exact k.2 _ c v hc hv
theorem RelCells.one {g : G} {c : V} {v : Value} (h : RelV g c v) : RelCells g [c] #[v] := by
  refine ⟨rfl, fun i c' v' hc hv => ?_⟩
  cases i with
  | zero => simp at hc hv; subst hc; subst hv; exact h
  | succ i => simp at hc
/-- Piece of a row. -/
theorem RelCells.piece {g : G} {cs : List V} {vs : Array Value} (h : RelCells g cs vs) {o k : Nat} (hk : o + k ≤ cs.length) : RelCells g ((cs.drop o).take k) (vs.extract o (o + k)) := by
  have e := h.1
  refine ⟨by simp; omega, fun i c v hc hv => ?_⟩
  simp only [Array.getElem?_extract] at hv
  rw [List.getElem?_take] at hc
  split at hc
  · rw [List.getElem?_drop] at hc
    split at hv
    · exact h.2 (o + i) c v hc hv
    · cases hv
  · cases hc

theorem RelV.oneCell {g : G} {x : V} {v : Value} (h : RelV g x v) (h1 : x.one = true) : v.oneCell' = true := by
  cases h <;> first | rfl | (simp [V.one] at h1; done)
/-- The cells of what a datum stands for. -/
theorem RelV.rcells {g : G} {x : V} {v : Value} (h : RelV g x v) (hlay : x.lays = true) : RelCells g x.cells v.cells ∧ x.cells.all V.one = true := by
  cases h with
  | agg cs vs hn hr => exact ⟨⟨hn, hr⟩, hlay⟩
  | tuple cs vs hn hr => simp [V.lays, V.one] at hlay
  | undef => simp [V.lays, V.one] at hlay
  | bool b => exact ⟨RelCells.one (.bool b), by simp [V.cells, V.one]⟩
  | int k n => exact ⟨RelCells.one (.int k n), by simp [V.cells, V.one]⟩
  | str s hs => exact ⟨RelCells.one (.str s hs), by simp [V.cells, V.one]⟩
  | nilp => exact ⟨RelCells.one .nilp, by simp [V.cells, V.one]⟩
  | ptr n o hn => exact ⟨RelCells.one (.ptr n o hn), by simp [V.cells, V.one]⟩
  | nilS => exact ⟨RelCells.one .nilS, by simp [V.cells, V.one]⟩
  | voidS a => exact ⟨RelCells.one (.voidS a), by simp [V.cells, V.one]⟩
  | viewS a c hc => exact ⟨RelCells.one (.viewS a c hc), by simp [V.cells, V.one]⟩
  | sl sz n o len cap hn hv hl hc => exact ⟨RelCells.one (.sl sz n o len cap hn hv hl hc), by simp [V.cells, V.one]⟩
  | nilM => exact ⟨RelCells.one .nilM, by simp [V.cells, V.one]⟩
  | map n hn => exact ⟨RelCells.one (.map n hn), by simp [V.cells, V.one]⟩
  | func f cs vs hn hr => exact ⟨RelCells.one (.func f cs vs hn hr), by simp [V.cells, V.one]⟩
  | nilF => exact ⟨RelCells.one .nilF, by simp [V.cells, V.one]⟩
  | iface t a v h => exact ⟨RelCells.one (.iface t a v h), by simp [V.cells, V.one]⟩
  | nilI => exact ⟨RelCells.one .nilI, by simp [V.cells, V.one]⟩

/-! ### memory -/
structure Heap where
  t : Tr O
  nn : Nat
noncomputable def Heap.get (H : Heap) (n : Nat) : Option O := H.t.get n
noncomputable def Heap.set (H : Heap) (n : Nat) (x : O) : Heap := ⟨H.t.set n x, H.nn⟩
noncomputable def Heap.new (H : Heap) (x : O) : Heap := ⟨H.t.set H.nn x, H.nn + 1⟩
/-- Name n goes, its block is the next name's. -/
noncomputable def Heap.move (H : Heap) (n : Nat) (x : O) : Heap := ⟨(H.t.set n .gone).set H.nn x, H.nn + 1⟩

def RelEnts (g : G) (es : List (V × V)) (ents : Array MapEntry) : Prop :=
  es.length = ents.size ∧ ∀ (i : Nat) k x e, es[i]? = some (k, x) → ents[i]? = some e → RelV g k e.key ∧ RelV g x e.val
theorem RelEnts.mono {g g' : G} (h : g.le g') {es : List (V × V)} {ents : Array MapEntry} (k : RelEnts g es ents) : RelEnts g' es ents :=
  ⟨k.1, fun i c x e hc he => ⟨((k.2 i c x e hc he).1).mono h, ((k.2 i c x e hc he).2).mono h⟩⟩

/-- None of n cells is frozen. -/
def Thaw (n : Nat) (fz : Nat × Nat) : Prop := fz = (0, 0) ∨ n ≤ fz.1
/-- The object lies at its name's block. -/
def ObjAt (g : G) (w : World) (n : Nat) : O → Prop
  | .cells T cs ex ro => ∃ (vs : Array Value) (fz : Nat × Nat), (∃ T', w.heap[g.nm n]? = some (.cells vs T' fz) ∧ (ro = false → T' = T)) ∧ (ro = false → Thaw vs.size fz) ∧ vs.size = g.vs n ∧ cs.length ≤ vs.size ∧ (ex = true → cs.length = vs.size) ∧ RelCells g cs (vs.extract 0 cs.length)
  | .map es => ∃ ents clock, w.heap[g.nm n]? = some (.map ents clock) ∧ RelEnts g es ents ∧ MapKept.Stamped ents clock
  | .iter s pos => w.heap[g.nm n]? = some (.stringIter ⟨s.toArray⟩ pos)
  | .gone => True

theorem ObjAt.mono {g g' : G} {w w' : World} {n : Nat} {x : O} (h : ObjAt g w n x) (hl : g.le g') (hn : g.bn n = true) (hw : x = .gone ∨ w'.heap[g.nm n]? = w.heap[g.nm n]?) : ObjAt g' w' n x := by
  cases x with
  | gone => trivial
  | cells T cs ex ro =>
    have hw := hw.resolve_left (by simp)
    obtain ⟨vs, fz, h1, h2, h3, h4, h5, h6⟩ := h
    exact ⟨vs, fz, by rw [hl.nm n hn, hw]; exact h1, h2, by rw [hl.vs n hn]; exact h3, h4, h5, h6.mono hl⟩
  | map es =>
    have hw := hw.resolve_left (by simp)
    obtain ⟨ents, clock, h1, h2, h3⟩ := h
    exact ⟨ents, clock, by rw [hl.nm n hn, hw]; exact h1, h2.mono hl, h3⟩
  | iter s pos =>
    have hw := hw.resolve_left (by simp)
    show w'.heap[g'.nm n]? = _
    rw [hl.nm n hn, hw]; exact h

structure Sat (g : G) (H : Heap) (w : World) : Prop where
  keep : Grow g.base w
  fresh : ∀ n, H.nn ≤ n → H.get n = none
  dom : ∀ n x, H.get n = some x → g.bn n = true
  bn : ∀ n, g.bn n = true → ∃ x, H.get n = some x
  at_ : ∀ n x, H.get n = some x → ObjAt g w n x
  own : ∀ n x, H.get n = some x → x.own = true → g.base.heap.size ≤ g.nm n
  lt : ∀ n x, H.get n = some x → x = .gone ∨ g.nm n < w.heap.size
  inj : ∀ n n' x x', H.get n = some x → H.get n' = some x' → x.own = true → x' ≠ .gone → g.nm n = g.nm n' → n = n'
  con : ∀ m x, g.ng.con m = some x → H.get m = some x

theorem Sat.inv {g : G} {H : Heap} {w : World} (h : Sat g H w) : g.ng.inv w := g.ng.up _ _ h.keep g.hinv
/-- Memory has only grown. -/
theorem Sat.grows {g : G} {H : Heap} {w w' : World} (h : Sat g H w) (k : Grow w w') : Sat g H w' :=
  { h with keep := h.keep.trans k
           at_ := fun n x hx => (h.at_ n x hx).mono (G.le.refl g) (h.dom n x hx) ((h.lt n x hx).imp id fun q => k.block _ q)
           lt := fun n x hx => (h.lt n x hx).imp id fun q => Nat.lt_of_lt_of_le q k.size }
/-- One block turns, or is new; one name speaks of it. -/
theorem Sat.put {g g' : G} {H H' : Heap} {w w' : World} (h : Sat g H w) {n b : Nat} {x : O} (hle : g.le g')
    (hos : w'.os = w.os) (htp : w'.tape = w.tape) (hout : w'.output = w.output) (hsz : w.heap.size ≤ w'.heap.size)
    (hb : g.base.heap.size ≤ b) (hb' : b < w'.heap.size) (hoth : ∀ k, k < w.heap.size → k ≠ b → w'.heap[k]? = w.heap[k]?)
    (hfr : ∀ n, H'.nn ≤ n → H'.get n = none) (hbn : ∀ m, g'.bn m = true → m = n ∨ g.bn m = true) (hx : ObjAt g' w' n x) (hnb : g'.nm n = b) (hn : g'.bn n = true) (hxg : x ≠ .gone)
    (hget : ∀ m z, H'.get m = some z → (m = n ∧ z = x) ∨ (m ≠ n ∧ H.get m = some z ∧ (z ≠ .gone → g.nm m ≠ b)) ∨ (z = .gone ∧ g'.bn m = true))
    (hhas : ∀ m, (m = n ∨ ∃ z, H.get m = some z) → ∃ z, H'.get m = some z) (hcon : ∀ m z, g.ng.con m = some z → H'.get m = some z) : Sat g' H' w' := by
  have old : ∀ {m z}, H.get m = some z → (z ≠ .gone → g.nm m ≠ b) → z = .gone ∨ w'.heap[g.nm m]? = w.heap[g.nm m]? := by
    intro m z hm hne
    rcases h.lt m z hm with h1 | h1
    · exact .inl h1
    · by_cases hz : z = .gone
      · exact .inl hz
      · exact .inr (hoth _ h1 (hne hz))
  have keep : Grow g'.base w' := by
    rw [hle.base]
    exact ⟨hos.trans h.keep.os, htp.trans h.keep.tape, hout.trans h.keep.output, Nat.le_trans h.keep.size hsz, fun k hk => (hoth k (Nat.lt_of_lt_of_le hk h.keep.size) (by omega)).trans (h.keep.block k hk)⟩
  refine { keep := keep, fresh := hfr, dom := fun m z hm => ?_, bn := fun m hm => ?_, at_ := fun m z hm => ?_, own := fun m z hm hz => ?_, lt := fun m z hm => ?_, inj := fun m m' z z' hm hm' hz hz' he => ?_, con := fun m z hm => hcon m z (by rw [← hle.ng]; exact hm) }
  · rcases hget m z hm with ⟨rfl, _⟩ | ⟨_, h1, _⟩ | ⟨_, h1⟩
    · exact hn
    · exact hle.bn m (h.dom m z h1)
    · exact h1
  · rcases hbn m hm with h1 | h1
    · exact hhas m (.inl h1)
    · exact hhas m (.inr (h.bn m h1))
  · rcases hget m z hm with ⟨rfl, rfl⟩ | ⟨_, h1, h2⟩ | ⟨rfl, _⟩
    · exact hx
    · exact (h.at_ m z h1).mono hle (h.dom m z h1) (old h1 h2)
    · trivial
  · rw [hle.base]
    rcases hget m z hm with ⟨rfl, rfl⟩ | ⟨_, h1, _⟩ | ⟨rfl, _⟩
    · rw [hnb]; exact hb
    · rw [hle.nm m (h.dom m z h1)]; exact h.own m z h1 hz
    · cases hz
  · rcases hget m z hm with ⟨rfl, rfl⟩ | ⟨_, h1, _⟩ | ⟨rfl, _⟩
    · rw [hnb]; exact .inr hb'
    · rw [hle.nm m (h.dom m z h1)]
      rcases h.lt m z h1 with h2 | h2
      · exact .inl h2
      · exact .inr (Nat.lt_of_lt_of_le h2 hsz)
    · exact .inl rfl
  · have notg : z ≠ .gone := by rintro rfl; cases hz
    rcases hget m z hm with ⟨e1, rfl⟩ | ⟨_, h1, h2⟩ | ⟨rfl, _⟩
    · rcases hget m' z' hm' with ⟨e2, _⟩ | ⟨_, h3, h4⟩ | ⟨rfl, _⟩
      · exact e1.trans e2.symm
      · subst e1
        rw [hnb, hle.nm m' (h.dom m' z' h3)] at he
        exact absurd he.symm (h4 hz')
      · exact absurd rfl hz'
    · rcases hget m' z' hm' with ⟨e2, _⟩ | ⟨_, h3, _⟩ | ⟨rfl, _⟩
      · subst e2
        rw [hnb, hle.nm m (h.dom m z h1)] at he
        exact absurd he (h2 notg)
      · rw [hle.nm m (h.dom m z h1), hle.nm m' (h.dom m' z' h3)] at he
        exact h.inj m m' z z' h1 h3 hz hz' he
      · exact absurd rfl hz'
    · cases hz

/-- Name n is block b's. -/
def G.name (g : G) (n b k : Nat) (h : g.bn n = false) : G where
  base := g.base
  ng := g.ng
  bn m := Nat.beq m n || g.bn m
  nm m := if m = n then b else g.nm m
  vs m := if m = n then k else g.vs m
  gl c hc := by
    obtain ⟨h1, h2⟩ := g.gl c hc
    have hne : c ≠ n := by rintro rfl; rw [h] at h1; cases h1
    exact ⟨by simp [h1], by simp [hne, h2]⟩
  hinv := g.hinv
theorem G.le_name (g : G) (n b k : Nat) (h : g.bn n = false) : g.le (g.name n b k h) := by
  have ne : ∀ m, g.bn m = true → m ≠ n := fun m hm e => by rw [e, h] at hm; cases hm
  exact ⟨rfl, rfl, fun m hm => by simp [G.name, hm], fun m hm => if_neg (ne m hm), fun m hm => if_neg (ne m hm)⟩

theorem Heap.get_set (H : Heap) (n : Nat) (x : O) (m : Nat) : (H.set n x).get m = if m = n then some x else H.get m := Tr.get_set _ _ _ _
theorem Heap.get_new (H : Heap) (x : O) (m : Nat) : (H.new x).get m = if m = H.nn then some x else H.get m := Tr.get_set _ _ _ _
theorem Heap.get_move (H : Heap) (n : Nat) (x : O) (m : Nat) : (H.move n x).get m = if m = H.nn then some x else if m = n then some .gone else H.get m := by
  unfold Heap.move Heap.get
  rw [Tr.get_set, Tr.get_set]

theorem Sat.not_bn {g : G} {H : Heap} {w : World} (h : Sat g H w) {n : Nat} (hn : H.get n = none) : g.bn n = false := by
  cases hb : g.bn n with
  | false => rfl
  | true => obtain ⟨x, hx⟩ := h.bn n hb; rw [hn] at hx; cases hx

/-- A new object at the next block, under a name that is free. -/
theorem Sat.newAt {g : G} {H : Heap} {w : World} (h : Sat g H w) {n : Nat} (hn : H.get n = none) (hlt : n < H.nn) (k : Nat) {x : O} {o : Obj} (hxg : x ≠ .gone) (hb : g.bn n = false)
    (hx : ObjAt (g.name n w.heap.size k hb) (w.alloc o) n x) : Sat (g.name n w.heap.size k hb) (H.set n x) (w.alloc o) := by
  have hsz : (w.alloc o).heap.size = w.heap.size + 1 := by simp
  refine h.put (g.le_name n _ k hb) rfl rfl rfl (by omega) h.keep.size (by omega) (fun j hj _ => Below.heap_alloc w o j hj) (fun m hm => ?_) (fun m hm => ?_) hx (if_pos rfl) (by simp [G.name]) hxg (fun m z hm => ?_) (fun m hm => ?_) (fun m z hm => ?_)
  · have hm : H.nn ≤ m := hm
    rw [Heap.get_set, if_neg (by omega)]; exact h.fresh m hm
  · simp only [G.name, Bool.or_eq_true] at hm
    exact hm.imp (fun e => Nat.eq_of_beq_eq_true e) id
  · rw [Heap.get_set] at hm
    by_cases e : m = n
    · rw [if_pos e] at hm; exact .inl ⟨e, (Option.some.inj hm).symm⟩
    · rw [if_neg e] at hm
      refine .inr (.inl ⟨e, hm, fun hz => ?_⟩)
      have := (h.lt m z hm).resolve_left hz
      omega
  · rw [Heap.get_set]
    by_cases e : m = n
    · exact ⟨x, if_pos e⟩
    · rw [if_neg e]; exact hm.resolve_left e
  · have hz := h.con m z hm
    rw [Heap.get_set, if_neg (by rintro rfl; rw [hn] at hz; cases hz)]; exact hz
theorem Sat.new {g : G} {H : Heap} {w : World} (h : Sat g H w) (k : Nat) {x : O} {o : Obj} (hxg : x ≠ .gone) (hb : g.bn H.nn = false)
    (hx : ObjAt (g.name H.nn w.heap.size k hb) (w.alloc o) H.nn x) : Sat (g.name H.nn w.heap.size k hb) (H.new x) (w.alloc o) := by
  have h1 : Sat g ⟨H.t, H.nn + 1⟩ w := { h with fresh := fun n hn => h.fresh n (by have : H.nn + 1 ≤ n := hn; omega) }
  exact h1.newAt (n := H.nn) (h.fresh H.nn (Nat.le_refl _)) (Nat.lt_succ_self _) k hxg hb hx
theorem Sat.nn_not_bn {g : G} {H : Heap} {w : World} (h : Sat g H w) : g.bn H.nn = false := h.not_bn (h.fresh H.nn (Nat.le_refl _))

/-- An object that may be written turns. -/
theorem Sat.turn {g : G} {H : Heap} {w w' : World} (h : Sat g H w) {n : Nat} {x y : O} (hn : H.get n = some x) (hxo : x.own = true) (hyg : y ≠ .gone)
    (hos : w'.os = w.os) (htp : w'.tape = w.tape) (hout : w'.output = w.output) (hsz : w'.heap.size = w.heap.size)
    (hoth : ∀ k, k ≠ g.nm n → w'.heap[k]? = w.heap[k]?) (hy : ObjAt g w' n y) : Sat g (H.set n y) w' := by
  have hlt : g.nm n < w.heap.size := (h.lt n x hn).resolve_left (by rintro rfl; cases hxo)
  refine h.put (G.le.refl g) hos htp hout (by omega) (h.own n x hn hxo) (by omega) (fun k _ hk => hoth k hk) (fun m hm => ?_) (fun m hm => .inr hm) hy rfl (h.dom n x hn) hyg (fun m z hm => ?_) (fun m hm => ?_) (fun m z hm => ?_)
  · have hm : H.nn ≤ m := hm
    have e : m ≠ n := by rintro rfl; rw [h.fresh m hm] at hn; cases hn
    rw [Heap.get_set, if_neg e]; exact h.fresh m hm
  · rw [Heap.get_set] at hm
    by_cases e : m = n
    · rw [if_pos e] at hm; exact .inl ⟨e, (Option.some.inj hm).symm⟩
    · rw [if_neg e] at hm
      exact .inr (.inl ⟨e, hm, fun hz he => e (h.inj n m x z hn hm hxo hz he.symm).symm⟩)
  · rw [Heap.get_set]
    by_cases e : m = n
    · exact ⟨y, if_pos e⟩
    · rw [if_neg e]; exact hm.resolve_left e
  · have hz := h.con m z hm
    rw [Heap.get_set, if_neg (by rintro rfl; rw [hn] at hz; cases hz; rw [g.ng.ro _ _ hm] at hxo; cases hxo)]; exact hz

/-- An object goes; one at its block, or at a new one, comes. -/
theorem Sat.moveAt {g : G} {H : Heap} {w w' : World} (h : Sat g H w) {n b k : Nat} {x y : O} (hn : H.get n = some x) (hxo : x.own = true) (hyg : y ≠ .gone) (hb : g.bn H.nn = false)
    (hos : w'.os = w.os) (htp : w'.tape = w.tape) (hout : w'.output = w.output) (hsz : w.heap.size ≤ w'.heap.size) (hbw : b = g.nm n ∨ w.heap.size ≤ b) (hb' : b < w'.heap.size)
    (hoth : ∀ k, k < w.heap.size → k ≠ b → w'.heap[k]? = w.heap[k]?) (hy : ObjAt (g.name H.nn b k hb) w' H.nn y) : Sat (g.name H.nn b k hb) (H.move n y) w' := by
  have hnn : n ≠ H.nn := by rintro rfl; rw [h.fresh _ (Nat.le_refl _)] at hn; cases hn
  have hbase : g.base.heap.size ≤ b := by
    rcases hbw with rfl | h1
    · exact h.own n x hn hxo
    · exact Nat.le_trans h.keep.size h1
  refine h.put (g.le_name _ _ _ hb) hos htp hout hsz hbase hb' hoth (fun m hm => ?_) (fun m hm => ?_) hy (if_pos rfl) (by simp [G.name]) hyg (fun m z hm => ?_) (fun m hm => ?_) (fun m z hm => ?_)
  · have hm : H.nn + 1 ≤ m := hm
    have e : m ≠ n := by rintro rfl; rw [h.fresh m (by omega)] at hn; cases hn
    rw [Heap.get_move, if_neg (by omega), if_neg e]; exact h.fresh m (by omega)
  · simp only [G.name, Bool.or_eq_true] at hm
    exact hm.imp (fun e => Nat.eq_of_beq_eq_true e) id
  · rw [Heap.get_move] at hm
    by_cases e : m = H.nn
    · rw [if_pos e] at hm; exact .inl ⟨e, (Option.some.inj hm).symm⟩
    · rw [if_neg e] at hm
      by_cases e2 : m = n
      · rw [if_pos e2] at hm
        refine .inr (.inr ⟨(Option.some.inj hm).symm, ?_⟩)
        rw [e2]
        exact (g.le_name _ _ _ hb).bn n (h.dom n x hn)
      · rw [if_neg e2] at hm
        refine .inr (.inl ⟨e, hm, fun hz he => ?_⟩)
        rcases hbw with rfl | h1
        · exact e2 (h.inj n m x z hn hm hxo hz he.symm).symm
        · have := (h.lt m z hm).resolve_left hz
          omega
  · rw [Heap.get_move]
    by_cases e : m = H.nn
    · exact ⟨y, if_pos e⟩
    · rw [if_neg e]
      by_cases e2 : m = n
      · exact ⟨.gone, if_pos e2⟩
      · rw [if_neg e2]; exact hm.resolve_left e
  · have hz := h.con m z hm
    have e1 : m ≠ H.nn := by rintro rfl; rw [h.fresh _ (Nat.le_refl _)] at hz; cases hz
    have e2 : m ≠ n := by rintro rfl; rw [hn] at hz; cases hz; rw [g.ng.ro _ _ hm] at hxo; cases hxo
    rw [Heap.get_move, if_neg e1, if_neg e2]; exact hz

/-- Whatever has been drawn: it is the same. -/
theorem Sat.drew {g : G} {H : Heap} {w : World} (h : Sat g H w) : Sat g H w.drew :=
  { keep := ⟨h.keep.os, h.keep.tape, h.keep.output, h.keep.size, h.keep.block⟩, fresh := h.fresh, dom := h.dom, bn := h.bn
    at_ := fun n x hn => (h.at_ n x hn).mono (G.le.refl g) (h.dom n x hn) (.inr rfl), own := h.own, lt := h.lt, inj := h.inj, con := h.con }
/-- Two heaps that hold the same. -/
theorem Sat.same {g : G} {H H' : Heap} {w : World} (h : Sat g H w) (hg : ∀ n, H'.get n = H.get n) (hn : H.nn ≤ H'.nn) : Sat g H' w :=
  { keep := h.keep, fresh := fun n hl => by rw [hg]; exact h.fresh n (Nat.le_trans hn hl), dom := fun n x hx => h.dom n x (by rw [← hg]; exact hx), bn := fun n hb => by obtain ⟨x, hx⟩ := h.bn n hb; exact ⟨x, by rw [hg]; exact hx⟩
    at_ := fun n x hx => h.at_ n x (by rw [← hg]; exact hx), own := fun n x hx => h.own n x (by rw [← hg]; exact hx), lt := fun n x hx => h.lt n x (by rw [← hg]; exact hx)
    inj := fun n n' x x' hx hx' => h.inj n n' x x' (by rw [← hg]; exact hx) (by rw [← hg]; exact hx'), con := fun m x hm => by rw [hg]; exact h.con m x hm }

end Go.Proofs.YtncoklpecffokaaGreatDoor.Cc
