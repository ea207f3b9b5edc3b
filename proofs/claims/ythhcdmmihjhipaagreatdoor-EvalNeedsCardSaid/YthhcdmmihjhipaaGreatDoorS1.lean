/-
  The frame of all walks of this seat, part 1: values as data ('AV'), the memory that never turns again ('G'), the memory that may turn ('Heap'), and what holds of a world between them ('Sat').
  Nothing of the program is named here.
-/
import Derived.WalkKit
import Derived.Test.YthhcdmmihjhipaaGreatDoorInk
namespace Go.Proofs.YthhcdmmihjhipaaGreatDoor
open Go Go.RowKit

inductive Tail where
  | shared
  | full
  | own (t : Nat)

inductive AV where
  | bool (b : Bool)
  | int (k : IntKind) (n : Int)
  | str (s : List UInt8)
  | ptr (a : Option Addr)
  | iptr (cs : List AV)
  | slice (sz : Nat) (xs : List AV) (tl : Tail)
  | mslice (a : Option Addr) (len cap : Nat)
  | map (r : Option Nat)
  | func (f : FuncId) (cap : List AV)
  | nilFunc
  | iface (t : TypeId) (v : AV)
  | nilIface
  | agg (cs : List AV)
  | tuple (vs : List AV)
  | raw (v : Value)

def AV.cells : AV → List AV
  | .agg cs => cs
  | v => [v]

def AV.one : AV → Bool
  | .agg _ | .tuple _ | .raw _ => false
  | _ => true
def AV.row (sz : Nat) (x : AV) : Prop := x.cells.length = sz ∧ x.cells.all AV.one = true

structure G where
  base : World
  imm : Nat → Nat → Option Value
  tok : Nat → Option (Nat × Nat × Nat)
  ntok : Nat
  hinv : Inv base

structure G.le (g g' : G) : Prop where
  base : g'.base = g.base
  imm : ∀ b o v, g.imm b o = some v → g'.imm b o = some v
  ntok : g.ntok ≤ g'.ntok
  tok : ∀ t, t < g.ntok → g'.tok t = g.tok t

theorem G.le.refl (g : G) : g.le g := ⟨rfl, fun _ _ _ h => h, Nat.le_refl _, fun _ _ => rfl⟩
theorem G.le.trans {a b c : G} (h : a.le b) (k : b.le c) : a.le c :=
  ⟨k.base.trans h.base, fun x o v hv => k.imm x o v (h.imm x o v hv), Nat.le_trans h.ntok k.ntok, fun t ht => (k.tok t (Nat.lt_of_lt_of_le ht h.ntok)).trans (h.tok t ht)⟩

def TailOK (g : G) : Tail → Nat → Nat → Nat → Prop
  | .shared, _, _, _ => True
  | .full, _, _, n => n = 0
  | .own t, b, lo, n => t < g.ntok ∧ (n = 0 ∨ g.tok t = some (b, lo, n))

theorem TailOK.mono {g g' : G} (h : g.le g') {tl : Tail} {b lo n : Nat} (k : TailOK g tl b lo n) : TailOK g' tl b lo n := by
  cases tl with
  | shared => trivial
  | full => exact k
  | own t => exact ⟨Nat.lt_of_lt_of_le k.1 h.ntok, k.2.imp id fun e => (h.tok t k.1).trans e⟩

inductive RelV (g : G) : AV → Value → Prop
  | bool (b) : RelV g (.bool b) (.bool b)
  | int (k n) : RelV g (.int k n) (.int k n)
  | str (s : List UInt8) (h : s.length ≤ maxLen) : RelV g (.str s) (.string ⟨s.toArray⟩)
  | ptr (a) : RelV g (.ptr a) (.pointer a)
  | iptr (cs : List AV) (b off : Nat) (vs : Nat → Value) (hi : ∀ i, i < cs.length → g.imm b (off + i) = some (vs i))
      (hr : ∀ i c, cs[i]? = some c → RelV g c (vs i)) : RelV g (.iptr cs) (.pointer (some ⟨b, off, none⟩))
  | nilSlice (sz tl) : RelV g (.slice sz [] tl) (.slice none 0 0)
  | voidSlice (sz) (a : Addr) : RelV g (.slice sz [] .shared) (.slice (some a) 0 0)
  | slice (sz : Nat) (xs : List AV) (tl : Tail) (b off cap : Nat) (vs : Nat → Value) (hsz : ∀ x, x ∈ xs → x.row sz)
      (hi : ∀ i, i < xs.length * sz → g.imm b (off + i) = some (vs i))
      (hr : ∀ i j x c, xs[i]? = some x → x.cells[j]? = some c → RelV g c (vs (i * sz + j)))
      (hlen : xs.length ≤ cap) (hcap : cap ≤ maxLen) (htl : TailOK g tl b (off + xs.length * sz) ((cap - xs.length) * sz)) :
      RelV g (.slice sz xs tl) (.slice (some ⟨b, off, none⟩) xs.length cap)
  | mslice (a l c) : RelV g (.mslice a l c) (.slice a l c)
  | map (r) : RelV g (.map r) (.map r)
  | func (f : FuncId) (cs : List AV) (vs : Array Value) (hn : cs.length = vs.size) (hr : ∀ (i : Nat) c v, cs[i]? = some c → vs[i]? = some v → RelV g c v) :
      RelV g (.func f cs) (.func (.func f) #[] vs)
  | nilFunc : RelV g .nilFunc .nilFunc
  | iface (t a v) (h : RelV g a v) : RelV g (.iface t a) (.iface t v)
  | nilIface : RelV g .nilIface .nilIface
  | agg (cs : List AV) (vs : Array Value) (hn : cs.length = vs.size) (hr : ∀ (i : Nat) c v, cs[i]? = some c → vs[i]? = some v → RelV g c v) :
      RelV g (.agg cs) (.agg vs)
  | tuple (cs : List AV) (vs : Array Value) (hn : cs.length = vs.size) (hr : ∀ (i : Nat) c v, cs[i]? = some c → vs[i]? = some v → RelV g c v) :
      RelV g (.tuple cs) (.tuple vs)
  | raw (v) : RelV g (.raw v) v

theorem RelV.mono {g g' : G} (h : g.le g') {a : AV} {v : Value} (k : RelV g a v) : RelV g' a v := by
  induction k with
  | bool b => exact .bool b
  | int k n => exact .int k n
  | str s hs => exact .str s hs
  | ptr a => exact .ptr a
  | iptr cs b off vs hi _ ih => exact .iptr cs b off vs (fun i hl => h.imm _ _ _ (hi i hl)) ih
  | nilSlice sz tl => exact .nilSlice sz tl
  | voidSlice sz a => exact .voidSlice sz a
  | slice sz xs tl b off cap vs hsz hi _ hlen hcap htl ih => exact .slice sz xs tl b off cap vs hsz (fun i hl => h.imm _ _ _ (hi i hl)) ih hlen hcap (htl.mono h)
  | mslice a l c => exact .mslice a l c
  | map r => exact .map r
  | func f cs vs hn _ ih => exact .func f cs vs hn ih
  | nilFunc => exact .nilFunc
  | iface t a v _ ih => exact .iface t a v ih
  | nilIface => exact .nilIface
  | agg cs vs hn _ ih => exact .agg cs vs hn ih
  | tuple cs vs hn _ ih => exact .tuple cs vs hn ih
  | raw v => exact .raw v

def RelCells (g : G) (cs : List AV) (vs : Array Value) : Prop := cs.length = vs.size ∧ ∀ (i : Nat) c v, cs[i]? = some c → vs[i]? = some v → RelV g c v

theorem RelCells.mono {g g' : G} (h : g.le g') {cs : List AV} {vs : Array Value} (k : RelCells g cs vs) : RelCells g' cs vs :=
  ⟨k.1, fun i c v hc hv => (k.2 i c v hc hv).mono h⟩

theorem RelCells.at {g : G} {cs : List AV} {vs : Array Value} (k : RelCells g cs vs) {i : Nat} {c : AV} (hc : cs[i]? = some c) : ∃ v, vs[i]? = some v ∧ RelV g c v := by
  have hi : i < cs.length := (List.getElem?_eq_some_iff.1 hc).1
  have hv : vs[i]? = some (vs[i]'(by have := k.1; omega)) := Array.getElem?_eq_getElem _
  exact ⟨_, hv, k.2 i c _ hc hv⟩

theorem RelCells.nil (g : G) : RelCells g [] #[] := ⟨rfl, fun i c v hc _ => by simp at hc⟩
theorem RelCells.cons {g : G} {c : AV} {v : Value} {cs : List AV} {vs : Array Value} (h : RelV g c v) (k : RelCells g cs vs) : RelCells g (c :: cs) (#[v] ++ vs) := by
  refine ⟨by simp [k.1]; omega, fun i c' v' hc hv => ?_⟩
  cases i with
  | zero => simp at hc; simp [Array.getElem?_append] at hv; subst hc; subst hv; exact h
  | succ i =>
    simp at hc
    rw [Array.getElem?_append] at hv
    simp at hv
    exact k.2 i c' v' hc hv
theorem RelCells.append {g : G} {cs ds : List AV} {vs us : Array Value} (h : RelCells g cs vs) (k : RelCells g ds us) : RelCells g (cs ++ ds) (vs ++ us) := by
  refine ⟨by simp [h.1, k.1], fun i c v hc hv => ?_⟩
  rw [List.getElem?_append] at hc
  rw [Array.getElem?_append] at hv
  rw [h.1] at hc
  split at hc
  · rename_i hlt
    rw [if_pos hlt] at hv
    exact h.2 i c v hc hv
  · rename_i hlt
    rw [if_neg hlt] at hv
    exact k.2 _ c v hc hv
theorem RelCells.one {g : G} {c : AV} {v : Value} (h : RelV g c v) : RelCells g [c] #[v] := by
  have := RelCells.cons h (RelCells.nil g)
  simpa using this
theorem RelCells.set {g : G} {cs : List AV} {vs : Array Value} (k : RelCells g cs vs) (o : Nat) {c : AV} {v : Value} (h : RelV g c v) : RelCells g (cs.set o c) (vs.setIfInBounds o v) := by
  refine ⟨by simp [k.1], fun i c' v' hc hv => ?_⟩
  rw [List.getElem?_set] at hc
  rw [Array.getElem?_setIfInBounds] at hv
  by_cases ho : o = i
  · subst ho
    have hl := k.1
    by_cases hlt : o < cs.length
    · simp [hlt] at hc
      rw [if_pos rfl, if_pos (by omega)] at hv
      simp at hv
      subst hc; subst hv; exact h
    · simp [hlt] at hc
  · rw [if_neg ho] at hc hv
    exact k.2 i c' v' hc hv

theorem RelV.cells_agg {g : G} {cs : List AV} {v : Value} (h : RelV g (.agg cs) v) : ∃ vs, v = .agg vs ∧ RelCells g cs vs := by
  cases h with
  | agg _ vs hn hr => exact ⟨vs, rfl, hn, hr⟩

inductive AObj where
  | box (T : TypeId) (cs : List AV)
  | map (es : List (AV × AV))
  | raw (o : Obj)

structure Heap where
  objs : Nat → Option AObj
  toks : Nat → Bool

def Heap.empty : Heap := ⟨fun _ => none, fun _ => false⟩
def Heap.set (H : Heap) (b : Nat) (o : AObj) : Heap := { H with objs := fun k => if k = b then some o else H.objs k }
def Heap.live (H : Heap) (t : Nat) : Heap := { H with toks := fun k => if k = t then true else H.toks k }
def Heap.kill (H : Heap) (t : Nat) : Heap := { H with toks := fun k => if k = t then false else H.toks k }
@[simp] theorem Heap.objs_set_same (H : Heap) (b : Nat) (o : AObj) : (H.set b o).objs b = some o := by simp [Heap.set]
theorem Heap.objs_set_ne (H : Heap) {b c : Nat} (o : AObj) (h : c ≠ b) : (H.set b o).objs c = H.objs c := by simp [Heap.set, h]
@[simp] theorem Heap.toks_set (H : Heap) (b : Nat) (o : AObj) : (H.set b o).toks = H.toks := rfl
@[simp] theorem Heap.objs_live (H : Heap) (t : Nat) : (H.live t).objs = H.objs := rfl
@[simp] theorem Heap.objs_kill (H : Heap) (t : Nat) : (H.kill t).objs = H.objs := rfl
@[simp] theorem Heap.toks_live_same (H : Heap) (t : Nat) : (H.live t).toks t = true := by simp [Heap.live]
theorem Heap.set_set (H : Heap) (b : Nat) (o o' : AObj) : (H.set b o).set b o' = H.set b o' := by
  simp only [Heap.set, Heap.mk.injEq, and_true]
  funext k; split <;> rfl

structure Heap.le (H H' : Heap) : Prop where
  objs : ∀ b x, H.objs b = some x → H'.objs b = some x
  toks : ∀ t, H.toks t = true → H'.toks t = true
theorem Heap.le.refl (H : Heap) : H.le H := ⟨fun _ _ h => h, fun _ h => h⟩
theorem Heap.le.trans {a b c : Heap} (h : a.le b) (k : b.le c) : a.le c := ⟨fun x o hx => k.objs x o (h.objs x o hx), fun t ht => k.toks t (h.toks t ht)⟩
theorem Heap.le_set {H : Heap} {b : Nat} (h : H.objs b = none) (o : AObj) : H.le (H.set b o) :=
  ⟨fun c x hx => by rw [Heap.objs_set_ne _ _ (by rintro rfl; rw [h] at hx; cases hx)]; exact hx, fun _ h => h⟩
theorem Heap.le_live (H : Heap) (t : Nat) : H.le (H.live t) := ⟨fun _ _ h => h, fun k h => by simp [Heap.live, h]⟩

def RelEnts (g : G) (es : List (AV × AV)) (ents : Array MapEntry) : Prop :=
  es.length = ents.size ∧ ∀ (i : Nat) k x e, es[i]? = some (k, x) → ents[i]? = some e → RelV g k e.key ∧ RelV g x e.val

theorem RelEnts.mono {g g' : G} (h : g.le g') {es : List (AV × AV)} {ents : Array MapEntry} (k : RelEnts g es ents) : RelEnts g' es ents :=
  ⟨k.1, fun i c x e hc he => ⟨((k.2 i c x e hc he).1).mono h, ((k.2 i c x e hc he).2).mono h⟩⟩

def RelMap (g : G) (es : List (AV × AV)) (ents : Array MapEntry) (clock : Nat) : Prop := RelEnts g es ents ∧ MapKept.Stamped ents clock
theorem RelMap.mono {g g' : G} (h : g.le g') {es : List (AV × AV)} {ents : Array MapEntry} {clock : Nat} (k : RelMap g es ents clock) : RelMap g' es ents clock := ⟨k.1.mono h, k.2⟩

def Thaw (n : Nat) (fz : Nat × Nat) : Prop := fz = (0, 0) ∨ n ≤ fz.1
def RowAt (w : World) (b : Nat) (vs : Array Value) (T : TypeId) : Prop := ∃ fz : Nat × Nat, w.heap[b]? = some (.cells vs T fz) ∧ Thaw vs.size fz
theorem RowAt.mk {w : World} {b : Nat} {vs : Array Value} {T : TypeId} (h : w.heap[b]? = some (.cells vs T (0, 0))) : RowAt w b vs T := ⟨_, h, .inl rfl⟩
theorem RowAt.same {w w' : World} {b : Nat} {vs : Array Value} {T : TypeId} (h : RowAt w b vs T) (k : ∀ {o : Obj}, w.heap[b]? = some o → w'.heap[b]? = some o) : RowAt w' b vs T := let ⟨fz, h1, h2⟩ := h; ⟨fz, k h1, h2⟩
theorem RowAt.cell {w : World} {b : Nat} {vs : Array Value} {T : TypeId} (h : RowAt w b vs T) (o : Nat) : w.cell? ⟨b, o, none⟩ = vs[o]? := by
  obtain ⟨fz, h, _⟩ := h
  unfold World.cell?; rw [h]; rfl
theorem RowAt.thaw {w : World} {b o : Nat} {vs : Array Value} {T : TypeId} (h : RowAt w b vs T) (ho : o < vs.size) : w.frozen? ⟨b, o, none⟩ = false := by
  obtain ⟨fz, h, ht⟩ := h
  rcases ht with rfl | ht
  · simp [World.frozen?, h]
  · obtain ⟨lo, hi'⟩ := fz
    simp only [World.frozen?, h, Bool.and_eq_false_iff, decide_eq_false_iff_not]
    left
    simp only at ht
    omega

structure Sat (g : G) (H : Heap) (w : World) : Prop where
  below : Below g.base.heap.size g.base w
  imm : ∀ b o v, g.imm b o = some v → w.cell? ⟨b, o, none⟩ = some v
  box : ∀ b T cs, H.objs b = some (.box T cs) → ∃ vs : Array Value, RowAt w b vs T ∧ RelCells g cs vs
  map : ∀ b es, H.objs b = some (.map es) → ∃ ents clock, w.heap[b]? = some (.map ents clock) ∧ RelMap g es ents clock
  raw : ∀ b o, H.objs b = some (.raw o) → w.heap[b]? = some o
  own : ∀ b x, H.objs b = some x → g.base.heap.size ≤ b ∧ ∀ o, g.imm b o = none
  tok : ∀ t b lo n, H.toks t = true → g.tok t = some (b, lo, n) → n ≠ 0 → g.base.heap.size ≤ b ∧ H.objs b = none ∧ (∀ o, lo ≤ o → g.imm b o = none) ∧
    ∃ (cells : Array Value) (T : TypeId), w.heap[b]? = some (.cells cells T (0, 0)) ∧ lo + n ≤ cells.size
  tokLt : ∀ t, H.toks t = true → t < g.ntok
  sep : ∀ t t' b lo n lo' n', H.toks t = true → H.toks t' = true → g.tok t = some (b, lo, n) → g.tok t' = some (b, lo', n') → n ≠ 0 → n' ≠ 0 → t = t'

theorem Sat.weaken {g : G} {H H' : Heap} {w : World} (h : Sat g H w) (hl : H'.le H) : Sat g H' w := {
  below := h.below
  imm := h.imm
  box b T cs hb := h.box b T cs (hl.objs _ _ hb)
  map b es hb := h.map b es (hl.objs _ _ hb)
  raw b o hb := h.raw b o (hl.objs _ _ hb)
  own b x hb := h.own b x (hl.objs _ _ hb)
  tok t b lo n ht hk hn := by
    obtain ⟨h1, h2, h3, h4⟩ := h.tok t b lo n (hl.toks t ht) hk hn
    refine ⟨h1, ?_, h3, h4⟩
    cases hb : H'.objs b with
    | none => rfl
    | some x => have := hl.objs _ _ hb; rw [h2] at this; cases this
  tokLt t ht := h.tokLt t (hl.toks t ht)
  sep t t' b lo n lo' n' ht ht' := h.sep t t' b lo n lo' n' (hl.toks t ht) (hl.toks t' ht') }

theorem Sat.drew {g : G} {H : Heap} {w : World} (h : Sat g H w) : Sat g H w.drew := {
  below := h.below.drew
  imm := h.imm
  box := h.box
  map := h.map
  raw := h.raw
  own := h.own
  tok := h.tok
  tokLt := h.tokLt
  sep := h.sep }

theorem Sat.obj_lt {g : G} {H : Heap} {w : World} (h : Sat g H w) {b : Nat} {x : AObj} (hb : H.objs b = some x) : b < w.heap.size := by
  have key : ∀ {o : Obj}, w.heap[b]? = some o → b < w.heap.size := fun he => (Array.getElem?_eq_some_iff.1 he).1
  cases x with
  | box T cs => obtain ⟨vs, ⟨_, hv, _⟩, _⟩ := h.box b T cs hb; exact key hv
  | map es => obtain ⟨e, c, hv, _⟩ := h.map b es hb; exact key hv
  | raw o => exact key (h.raw b o hb)

theorem Sat.new_none {g : G} {H : Heap} {w : World} (h : Sat g H w) : H.objs w.heap.size = none := by
  cases hb : H.objs w.heap.size with
  | none => rfl
  | some x => have := h.obj_lt hb; omega

theorem Sat.imm_lt {g : G} {H : Heap} {w : World} (h : Sat g H w) {b o : Nat} {v : Value} (hb : g.imm b o = some v) : b < w.heap.size :=
  World.block_lt_of_cell? _ (a := ⟨b, o, none⟩) (h.imm b o v hb)

theorem Sat.imm_new {g : G} {H : Heap} {w : World} (h : Sat g H w) (o : Nat) : g.imm w.heap.size o = none := by
  cases hb : g.imm w.heap.size o with
  | none => rfl
  | some x => have := h.imm_lt hb; omega

theorem heap_alloc_old (w : World) (o : Obj) {b : Nat} {x : Obj} (h : w.heap[b]? = some x) : (w.alloc o).heap[b]? = some x := by
  have hb : b < w.heap.size := (Array.getElem?_eq_some_iff.1 h).1
  rw [Below.heap_alloc w o b hb]; exact h
theorem heap_alloc_new (w : World) (o : Obj) : (w.alloc o).heap[w.heap.size]? = some o := by
  show (w.heap.push o)[w.heap.size]? = _
  simp

theorem Sat.alloc {g : G} {H : Heap} {w : World} (h : Sat g H w) (o : Obj) : Sat g H (w.alloc o) := {
  below := h.below.alloc (h.below.size) o
  imm b o' v hv := by
    rw [World.cell?_alloc_old _ _ _ (by have := h.imm_lt hv; simp; omega)]
    exact h.imm b o' v hv
  box b T cs hb := let ⟨vs, hv, hr⟩ := h.box b T cs hb; ⟨vs, hv.same (heap_alloc_old _ _), hr⟩
  map b es hb := let ⟨e, c, hv, hr⟩ := h.map b es hb; ⟨e, c, heap_alloc_old _ _ hv, hr⟩
  raw b o' hb := heap_alloc_old _ _ (h.raw b o' hb)
  own := h.own
  tok t b lo n ht hk hn := let ⟨h1, h2, h3, c, T, h4, h5⟩ := h.tok t b lo n ht hk hn; ⟨h1, h2, h3, c, T, heap_alloc_old _ _ h4, h5⟩
  tokLt := h.tokLt
  sep := h.sep }

theorem Sat.claim {g : G} {H : Heap} {w : World} (h : Sat g H w) {b : Nat} (hb : g.base.heap.size ≤ b) (hi : ∀ o, g.imm b o = none) (ht : ∀ t lo n, H.toks t = true → g.tok t = some (b, lo, n) → n = 0)
    (x : AObj) (hx : match x with
      | .box T cs => ∃ vs : Array Value, RowAt w b vs T ∧ RelCells g cs vs
      | .map es => ∃ ents clock, w.heap[b]? = some (.map ents clock) ∧ RelMap g es ents clock
      | .raw o => w.heap[b]? = some o) : Sat g (H.set b x) w := {
  below := h.below
  imm := h.imm
  box c T cs hc := by
    by_cases e : c = b
    · subst e; rw [Heap.objs_set_same] at hc; cases hc; exact hx
    · rw [Heap.objs_set_ne _ _ e] at hc; exact h.box c T cs hc
  map c es hc := by
    by_cases e : c = b
    · subst e; rw [Heap.objs_set_same] at hc; cases hc; exact hx
    · rw [Heap.objs_set_ne _ _ e] at hc; exact h.map c es hc
  raw c o hc := by
    by_cases e : c = b
    · subst e; rw [Heap.objs_set_same] at hc; cases hc; exact hx
    · rw [Heap.objs_set_ne _ _ e] at hc; exact h.raw c o hc
  own c y hc := by
    by_cases e : c = b
    · subst e; exact ⟨hb, hi⟩
    · rw [Heap.objs_set_ne _ _ e] at hc; exact h.own c y hc
  tok t c lo n hl hk hn := by
    obtain ⟨h1, h2, h3, h4⟩ := h.tok t c lo n hl hk hn
    refine ⟨h1, ?_, h3, h4⟩
    by_cases e : c = b
    · subst e; exact absurd (ht t lo n hl hk) hn
    · rw [Heap.objs_set_ne _ _ e]; exact h2
  tokLt := h.tokLt
  sep := h.sep }

theorem Sat.tok_new {g : G} {H : Heap} {w : World} (h : Sat g H w) : ∀ t lo n, H.toks t = true → g.tok t = some (w.heap.size, lo, n) → n = 0 := by
  intro t lo n hl hk
  rcases Nat.eq_zero_or_pos n with h0 | h0
  · exact h0
  · obtain ⟨_, _, _, c, T, h4, _⟩ := h.tok t _ lo n hl hk (by omega)
    have := (Array.getElem?_eq_some_iff.1 h4).1
    omega

theorem Sat.new_box {g : G} {H : Heap} {w : World} (h : Sat g H w) (T : TypeId) {cs : List AV} {vs : Array Value} (hr : RelCells g cs vs) :
    Sat g (H.set w.heap.size (.box T cs)) (w.alloc (.cells vs T)) :=
  (h.alloc (.cells vs T)).claim (by have := h.below.size; exact this) h.imm_new h.tok_new (.box T cs) ⟨vs, .mk (heap_alloc_new _ _), hr⟩

end Go.Proofs.YthhcdmmihjhipaaGreatDoor

namespace Go.Proofs.YthhcdmmihjhipaaGreatDoor
open Go Go.RowKit

def G.addImm (g : G) (b : Nat) (f : Nat → Option Value) : G := { g with imm := fun c o => if c = b then f o else g.imm c o }
def G.addTok (g : G) (r : Option (Nat × Nat × Nat)) : G := { g with tok := fun t => if t = g.ntok then r else g.tok t, ntok := g.ntok + 1 }

theorem G.le_addImm {g : G} {b : Nat} {f : Nat → Option Value} (h : ∀ o v, g.imm b o = some v → f o = some v) : g.le (g.addImm b f) := by
  refine ⟨rfl, fun c o v hv => ?_, Nat.le_refl _, fun _ _ => rfl⟩
  show (if c = b then f o else g.imm c o) = some v
  by_cases e : c = b
  · subst e; rw [if_pos rfl]; exact h o v hv
  · rw [if_neg e]; exact hv
theorem G.le_addTok (g : G) (r : Option (Nat × Nat × Nat)) : g.le (g.addTok r) := by
  refine ⟨rfl, fun _ _ _ h => h, Nat.le_succ _, fun t ht => ?_⟩
  show (if t = g.ntok then r else g.tok t) = _
  rw [if_neg (by omega)]
@[simp] theorem G.imm_addTok (g : G) (r : Option (Nat × Nat × Nat)) : (g.addTok r).imm = g.imm := rfl
theorem G.imm_addImm (g : G) (b : Nat) (f : Nat → Option Value) (o : Nat) : (g.addImm b f).imm b o = f o := by simp [G.addImm]
theorem G.imm_addImm_ne (g : G) {b c : Nat} (f : Nat → Option Value) (o : Nat) (h : c ≠ b) : (g.addImm b f).imm c o = g.imm c o := by simp [G.addImm, h]
theorem G.tok_addTok (g : G) (r : Option (Nat × Nat × Nat)) : (g.addTok r).tok g.ntok = r := by simp [G.addTok]
theorem G.tok_addTok_ne (g : G) (r : Option (Nat × Nat × Nat)) {t : Nat} (h : t ≠ g.ntok) : (g.addTok r).tok t = g.tok t := by simp [G.addTok, h]

def Heap.drop (H : Heap) (b : Nat) : Heap := { H with objs := fun k => if k = b then none else H.objs k }
theorem Heap.drop_le (H : Heap) (b : Nat) : (H.drop b).le H := by
  refine ⟨fun c x hc => ?_, fun _ h => h⟩
  simp only [Heap.drop] at hc
  split at hc
  · cases hc
  · exact hc
theorem Heap.kill_le (H : Heap) (t : Nat) : (H.kill t).le H := by
  refine ⟨fun _ _ h => h, fun k h => ?_⟩
  simp only [Heap.kill] at h
  split at h
  · cases h
  · exact h
theorem Heap.objs_drop (H : Heap) (b : Nat) : (H.drop b).objs b = none := by simp [Heap.drop]

theorem Sat.addImm {g : G} {H : Heap} {w : World} (h : Sat g H w) {b : Nat} {f : Nat → Option Value} (hf : ∀ o v, f o = some v → w.cell? ⟨b, o, none⟩ = some v)
    (hold : ∀ o v, g.imm b o = some v → f o = some v) (hown : H.objs b = none)
    (htok : ∀ t lo n o, H.toks t = true → g.tok t = some (b, lo, n) → n ≠ 0 → lo ≤ o → f o = none) : Sat (g.addImm b f) H w := by
  have hle := G.le_addImm hold
  refine ⟨h.below, fun c o v hv => ?_, fun c T cs hc => ?_, fun c es hc => ?_, h.raw, fun c x hc => ?_, fun t c lo n ht hk hn => ?_, h.tokLt, h.sep⟩
  · by_cases e : c = b
    · subst e; rw [G.imm_addImm] at hv; exact hf o v hv
    · rw [G.imm_addImm_ne _ _ _ e] at hv; exact h.imm c o v hv
  · obtain ⟨vs, hv, hr⟩ := h.box c T cs hc; exact ⟨vs, hv, hr.mono hle⟩
  · obtain ⟨en, cl, hv, hr⟩ := h.map c es hc; exact ⟨en, cl, hv, hr.mono hle⟩
  · refine ⟨(h.own c x hc).1, fun o => ?_⟩
    have e : c ≠ b := by rintro rfl; rw [hown] at hc; cases hc
    rw [G.imm_addImm_ne _ _ _ e]; exact (h.own c x hc).2 o
  · obtain ⟨h1, h2, h3, h4⟩ := h.tok t c lo n ht hk hn
    refine ⟨h1, h2, fun o ho => ?_, h4⟩
    by_cases e : c = b
    · subst e; rw [G.imm_addImm]; exact htok t lo n o ht hk hn ho
    · rw [G.imm_addImm_ne _ _ _ e]; exact h3 o ho

theorem Sat.addTok {g : G} {H : Heap} {w : World} (h : Sat g H w) (r : Option (Nat × Nat × Nat))
    (hr : ∀ b lo n, r = some (b, lo, n) → n ≠ 0 → g.base.heap.size ≤ b ∧ H.objs b = none ∧ (∀ o, lo ≤ o → g.imm b o = none) ∧
      (∃ (cells : Array Value) (T : TypeId), w.heap[b]? = some (.cells cells T (0, 0)) ∧ lo + n ≤ cells.size) ∧
      ∀ t lo' n', H.toks t = true → g.tok t = some (b, lo', n') → n' = 0) : Sat (g.addTok r) (H.live g.ntok) w := by
  have hle := G.le_addTok g r
  have live : ∀ t, (H.live g.ntok).toks t = true → t = g.ntok ∨ (t ≠ g.ntok ∧ H.toks t = true) := by
    intro t ht
    simp only [Heap.live] at ht
    by_cases e : t = g.ntok
    · exact .inl e
    · rw [if_neg e] at ht; exact .inr ⟨e, ht⟩
  refine ⟨h.below, h.imm, fun c T cs hc => ?_, fun c es hc => ?_, h.raw, h.own, fun t c lo n ht hk hn => ?_, fun t ht => ?_, fun t t' b lo n lo' n' ht ht' hk hk' hn hn' => ?_⟩
  · obtain ⟨vs, hv, hr⟩ := h.box c T cs hc; exact ⟨vs, hv, hr.mono hle⟩
  · obtain ⟨en, cl, hv, hr⟩ := h.map c es hc; exact ⟨en, cl, hv, hr.mono hle⟩
  · rcases live t ht with e | ⟨e, ht⟩
    · subst e; rw [G.tok_addTok] at hk
      obtain ⟨h1, h2, h3, h4, _⟩ := hr c lo n hk hn
      exact ⟨h1, h2, h3, h4⟩
    · rw [G.tok_addTok_ne _ _ e] at hk; exact h.tok t c lo n ht hk hn
  · show t < g.ntok + 1
    rcases live t ht with e | ⟨_, ht⟩
    · omega
    · have := h.tokLt t ht; omega
  · rcases live t ht with e | ⟨e, ht⟩ <;> rcases live t' ht' with e' | ⟨e', ht'⟩
    · omega
    · subst e; rw [G.tok_addTok] at hk; rw [G.tok_addTok_ne _ _ e'] at hk'
      exact absurd ((hr b lo n hk hn).2.2.2.2 t' lo' n' ht' hk') hn'
    · subst e'; rw [G.tok_addTok] at hk'; rw [G.tok_addTok_ne _ _ e] at hk
      exact absurd ((hr b lo' n' hk' hn').2.2.2.2 t lo n ht hk) hn
    · rw [G.tok_addTok_ne _ _ e] at hk; rw [G.tok_addTok_ne _ _ e'] at hk'
      exact h.sep t t' b lo n lo' n' ht ht' hk hk' hn hn'

theorem Sat.new_imm {g : G} {H : Heap} {w : World} (h : Sat g H w) (vs : Array Value) (T : TypeId) (fz : Nat × Nat) (k : Nat) :
    Sat (g.addImm w.heap.size fun o => if o < k then vs[o]? else none) H (w.alloc (.cells vs T fz)) := by
  refine (h.alloc _).addImm (fun o v hv => ?_) (fun o v hv => by rw [h.imm_new] at hv; cases hv) h.new_none (fun t lo n o ht hk hn _ => absurd (h.tok_new t lo n ht hk) hn)
  split at hv
  · unfold World.cell?; rw [heap_alloc_new]; simpa using hv
  · cases hv

theorem Sat.box_cell {g : G} {H : Heap} {w : World} (h : Sat g H w) {b : Nat} {T : TypeId} {cs : List AV} (hb : H.objs b = some (.box T cs)) {o : Nat} {c : AV} (hc : cs[o]? = some c) :
    ∃ v, w.cell? ⟨b, o, none⟩ = some v ∧ RelV g c v := by
  obtain ⟨vs, hv, hr⟩ := h.box b T cs hb
  obtain ⟨v, hv', hrel⟩ := hr.at hc
  exact ⟨v, by rw [hv.cell]; exact hv', hrel⟩

theorem heap_other {w w' : World} {b c : Nat} (h : ∀ k, k ≠ b → w'.heap[k]? = w.heap[k]?) (hc : c ≠ b) {x : Obj} (hx : w.heap[c]? = some x) : w'.heap[c]? = some x := (h c hc).trans hx

theorem Sat.turn {g : G} {H : Heap} {w w' : World} (h : Sat g H w) {b : Nat} {x x' : AObj} (hb : H.objs b = some x)
    (hoth : ∀ k, k ≠ b → w'.heap[k]? = w.heap[k]?) (hsz : w'.heap.size = w.heap.size) (hos : w'.os = w.os) (htp : w'.tape = w.tape) (hout : w'.output = w.output)
    (hx : match x' with
      | .box T cs => ∃ vs : Array Value, RowAt w' b vs T ∧ RelCells g cs vs
      | .map es => ∃ ents clock, w'.heap[b]? = some (.map ents clock) ∧ RelMap g es ents clock
      | .raw o => w'.heap[b]? = some o) : Sat g (H.set b x') w' := by
  obtain ⟨hbase, himm⟩ := h.own b x hb
  have hcell : ∀ (c o : Nat), c ≠ b → w'.cell? ⟨c, o, none⟩ = w.cell? ⟨c, o, none⟩ := fun c o hc => World.cell?_of_block (w := w) (hoth c hc)
  have h0 : Sat g (H.drop b) w' := by
    refine ⟨h.below.trans ⟨hos, htp, hout, by omega, fun k hk => hoth k (by omega)⟩, fun c o v hv => ?_, fun c T cs hc => ?_, fun c es hc => ?_, fun c o hc => ?_, fun c y hc => h.own c y ((H.drop_le b).objs _ _ hc), fun t c lo n ht hk hn => ?_, h.tokLt, h.sep⟩
    · have e : c ≠ b := by rintro rfl; rw [himm] at hv; cases hv
      rw [hcell c o e]; exact h.imm c o v hv
    · have e : c ≠ b := by rintro rfl; rw [Heap.objs_drop] at hc; cases hc
      obtain ⟨vs, hv, hr⟩ := h.box c T cs ((H.drop_le b).objs _ _ hc); exact ⟨vs, hv.same (heap_other hoth e), hr⟩
    · have e : c ≠ b := by rintro rfl; rw [Heap.objs_drop] at hc; cases hc
      obtain ⟨en, cl, hv, hr⟩ := h.map c es ((H.drop_le b).objs _ _ hc); exact ⟨en, cl, heap_other hoth e hv, hr⟩
    · have e : c ≠ b := by rintro rfl; rw [Heap.objs_drop] at hc; cases hc
      exact heap_other hoth e (h.raw c o ((H.drop_le b).objs _ _ hc))
    · obtain ⟨h1, h2, h3, cl, T, h4, h5⟩ := h.tok t c lo n ht hk hn
      have e : c ≠ b := by rintro rfl; rw [h2] at hb; cases hb
      refine ⟨h1, ?_, h3, cl, T, heap_other hoth e h4, h5⟩
      simp [Heap.drop, e, h2]
  have h1 := h0.claim hbase himm (fun t lo n ht hk => by
    rcases Nat.eq_zero_or_pos n with e | e
    · exact e
    · have := (h.tok t b lo n ht hk (by omega)).2.1; rw [hb] at this; cases this) x' hx
  have e : (H.drop b).set b x' = H.set b x' := by
    simp only [Heap.set, Heap.drop, Heap.mk.injEq, and_true]
    funext k; split <;> simp_all
  rwa [e] at h1

theorem Sat.store {g : G} {H : Heap} {w : World} (h : Sat g H w) {b : Nat} {T : TypeId} {cs ds : List AV} {vs us : Array Value} (hb : H.objs b = some (.box T cs))
    (hw : w.heap[b]? = some (.cells vs T (0, 0))) (hr : RelCells g ds us) : Sat g (H.set b (.box T ds)) { w with heap := w.heap.setIfInBounds b (.cells us T (0, 0)) } := by
  refine h.turn hb (fun k hk => ?_) (by simp) rfl rfl rfl ⟨us, .mk ?_, hr⟩
  · simp only [Array.getElem?_setIfInBounds]; rw [if_neg (by omega)]
  · have hlt : b < w.heap.size := (Array.getElem?_eq_some_iff.1 hw).1
    simp [hlt]

theorem Sat.freeze {g : G} {H : Heap} {w : World} (h : Sat g H w) {b : Nat} {T : TypeId} {cs : List AV} (hb : H.objs b = some (.box T cs)) :
    ∃ vs : Array Value, RelCells g cs vs ∧ (∀ o v, vs[o]? = some v → (g.addImm b (fun o => vs[o]?)).imm b o = some v) ∧ g.le (g.addImm b (fun o => vs[o]?)) ∧ Sat (g.addImm b (fun o => vs[o]?)) (H.drop b) w := by
  obtain ⟨vs, hv, hr⟩ := h.box b T cs hb
  have himm := (h.own b _ hb).2
  refine ⟨vs, hr, fun o v hv => by rw [G.imm_addImm]; exact hv, G.le_addImm (fun o v hv => by rw [himm] at hv; cases hv), ?_⟩
  refine (h.weaken (H.drop_le b)).addImm (fun o v ho => by rw [hv.cell]; exact ho) (fun o v hv => by rw [himm] at hv; cases hv) (Heap.objs_drop _ _) (fun t lo n o ht hk hn _ => ?_)
  have := (h.tok t b lo n ht hk hn).2.1; rw [hb] at this; cases this

theorem Sat.append_in {g : G} {H : Heap} {w : World} (h : Sat g H w) {t b lo n : Nat} (ht : H.toks t = true) (hk : g.tok t = some (b, lo, n)) (us : Array Value) (hn : us.size ≤ n) (h0 : n ≠ 0) :
    ∃ (cells : Array Value) (T : TypeId), w.heap[b]? = some (.cells cells T (0, 0)) ∧ lo + n ≤ cells.size ∧ ∀ cells' : Array Value, cells'.size = cells.size → (∀ o, o < lo → cells'[o]? = cells[o]?) → (∀ o, o < us.size → cells'[lo + o]? = us[o]?) →
      ∃ g' : G, g.le g' ∧ g'.ntok = g.ntok + 1 ∧ g'.tok g.ntok = some (b, lo + us.size, n - us.size) ∧ (∀ o v, us[o]? = some v → g'.imm b (lo + o) = some v) ∧
        Sat g' ((H.kill t).live g.ntok) { w with heap := w.heap.setIfInBounds b (.cells cells' T (0, 0)) } := by
  obtain ⟨h1, h2, h3, cells, T, h4, h5⟩ := h.tok t b lo n ht hk h0
  refine ⟨cells, T, h4, h5, fun cells' hs hlow hnew => ?_⟩
  have hlt : b < w.heap.size := (Array.getElem?_eq_some_iff.1 h4).1
  let f : Nat → Option Value := fun o => if lo ≤ o ∧ o < lo + us.size then us[o - lo]? else g.imm b o
  have hf : ∀ o v, g.imm b o = some v → f o = some v := fun o v hv => by
    show (if lo ≤ o ∧ o < lo + us.size then us[o - lo]? else g.imm b o) = some v
    rw [if_neg (by rintro ⟨ho, _⟩; rw [h3 o ho] at hv; cases hv)]; exact hv
  have hkill : ∀ t', (H.kill t).toks t' = true → t' ≠ t ∧ H.toks t' = true := fun t' ht' => by
    simp only [Heap.kill] at ht'
    by_cases e : t' = t
    · rw [if_pos e] at ht'; cases ht'
    · rw [if_neg e] at ht'; exact ⟨e, ht'⟩
  have hoth : ∀ k, k ≠ b → (w.heap.setIfInBounds b (.cells cells' T (0, 0)))[k]? = w.heap[k]? := fun k hk => by
    simp only [Array.getElem?_setIfInBounds]; rw [if_neg (by omega)]
  have hself : (w.heap.setIfInBounds b (.cells cells' T (0, 0)))[b]? = some (.cells cells' T (0, 0)) := by simp [hlt]
  have hsep : ∀ t' lo' n', (H.kill t).toks t' = true → g.tok t' = some (b, lo', n') → n' = 0 := fun t' lo' n' ht' hk' => by
    rcases Nat.eq_zero_or_pos n' with e | e
    · exact e
    · obtain ⟨hne, ht'⟩ := hkill t' ht'
      exact absurd (h.sep t' t b lo' n' lo n ht' ht hk' hk (by omega) h0) hne
  -- the world behind the store, the elder words
  have hA : Sat g (H.kill t) { w with heap := w.heap.setIfInBounds b (.cells cells' T (0, 0)) } := by
    refine ⟨h.below.trans ⟨rfl, rfl, rfl, by simp, fun k hk => hoth k (by omega)⟩, fun c o v hv => ?_, fun c S cs hc => ?_, fun c es hc => ?_, fun c o hc => ?_, h.own, fun t' c lo' n' ht' hk' hn' => ?_, fun t' ht' => h.tokLt t' (hkill t' ht').2, fun t' t'' c l' m' l'' m'' ht' ht'' => h.sep t' t'' c l' m' l'' m'' (hkill t' ht').2 (hkill t'' ht'').2⟩
    · by_cases e : c = b
      · subst e
        have ho : o < lo := by
          rcases Nat.lt_or_ge o lo with e' | e'
          · exact e'
          · rw [h3 o e'] at hv; cases hv
        have := h.imm c o v hv
        unfold World.cell? at this ⊢
        simp only [hself]
        rw [h4] at this
        simp at this ⊢
        rw [hlow o ho]; exact this
      · rw [World.cell?_of_block (w := w) (hoth c e)]; exact h.imm c o v hv
    · have e : c ≠ b := by rintro rfl; rw [Heap.objs_kill, h2] at hc; cases hc
      obtain ⟨vs, hv, hr⟩ := h.box c S cs hc; exact ⟨vs, hv.same (fun q => (hoth c e).trans q), hr⟩
    · have e : c ≠ b := by rintro rfl; rw [Heap.objs_kill, h2] at hc; cases hc
      obtain ⟨en, cl, hv, hr⟩ := h.map c es hc; exact ⟨en, cl, (hoth c e).trans hv, hr⟩
    · have e : c ≠ b := by rintro rfl; rw [Heap.objs_kill, h2] at hc; cases hc
      exact (hoth c e).trans (h.raw c o hc)
    · have e : c ≠ b := by rintro rfl; exact hn' (hsep t' lo' n' ht' hk')
      obtain ⟨q1, q2, q3, cl, S, q4, q5⟩ := h.tok t' c lo' n' (hkill t' ht').2 hk' hn'
      exact ⟨q1, q2, q3, cl, S, (hoth c e).trans q4, q5⟩
  have hB : Sat (g.addImm b f) (H.kill t) { w with heap := w.heap.setIfInBounds b (.cells cells' T (0, 0)) } := by
    refine hA.addImm (fun o v hv => ?_) hf h2 (fun t' lo' n' o ht' hk' hn' _ => absurd (hsep t' lo' n' ht' hk') hn')
    by_cases hin : lo ≤ o ∧ o < lo + us.size
    · have hv' : us[o - lo]? = some v := by simpa [f, hin] using hv
      unfold World.cell?
      simp only [hself]
      have := hnew (o - lo) (by omega)
      rw [show lo + (o - lo) = o by omega] at this
      simp [this, hv']
    · have hv' : g.imm b o = some v := by
        have : f o = g.imm b o := if_neg hin
        rw [← this]; exact hv
      exact hA.imm b o v hv'
  refine ⟨(g.addImm b f).addTok (some (b, lo + us.size, n - us.size)), (G.le_addImm hf).trans (G.le_addTok _ _), rfl, G.tok_addTok _ _, fun o v ho => ?_, ?_⟩
  · rw [G.imm_addTok, G.imm_addImm]
    have hlt' : o < us.size := (Array.getElem?_eq_some_iff.1 ho).1
    show (if lo ≤ lo + o ∧ lo + o < lo + us.size then us[lo + o - lo]? else g.imm b (lo + o)) = some v
    rw [if_pos (by omega), show lo + o - lo = o by omega]; exact ho
  · refine hB.addTok _ (fun b' lo' n' he hn' => ?_)
    simp only [Option.some.injEq, Prod.mk.injEq] at he
    obtain ⟨rfl, rfl, rfl⟩ := he
    refine ⟨h1, h2, fun o ho => ?_, ⟨cells', T, hself, by omega⟩, hsep⟩
    rw [G.imm_addImm]
    show (if lo ≤ o ∧ o < lo + us.size then us[o - lo]? else g.imm b o) = none
    rw [if_neg (by omega)]; exact h3 o (by omega)

theorem Sat.new_row {g : G} {H : Heap} {w : World} (h : Sat g H w) (vs : Array Value) (T : TypeId) (k : Nat) (hk : k ≤ vs.size) :
    ∃ g' : G, g.le g' ∧ g'.ntok = g.ntok + 1 ∧ g'.tok g.ntok = some (w.heap.size, k, vs.size - k) ∧ (∀ o v, o < k → vs[o]? = some v → g'.imm w.heap.size o = some v) ∧ Sat g' (H.live g.ntok) (w.alloc (.cells vs T)) := by
  have h0 := h.new_imm vs T (0, 0) k
  refine ⟨(g.addImm w.heap.size fun o => if o < k then vs[o]? else none).addTok (some (w.heap.size, k, vs.size - k)),
    (G.le_addImm (fun o v hv => by rw [h.imm_new] at hv; cases hv)).trans (G.le_addTok _ _), rfl, G.tok_addTok _ _, fun o v ho hv => ?_, ?_⟩
  · rw [G.imm_addTok, G.imm_addImm]; simpa [ho] using hv
  · refine h0.addTok _ (fun b lo n he hn => ?_)
    simp only [Option.some.injEq, Prod.mk.injEq] at he
    obtain ⟨rfl, rfl, rfl⟩ := he
    exact ⟨h.below.size, h.new_none, fun o ho => by rw [G.imm_addImm]; simp; intro; omega, ⟨vs, T, heap_alloc_new _ _, by omega⟩, h.tok_new⟩

theorem Sat.retag {g : G} {H : Heap} {w : World} (h : Sat g H w) : Sat (g.addTok none) (H.live g.ntok) w := h.addTok none (fun _ _ _ he => by cases he)

end Go.Proofs.YthhcdmmihjhipaaGreatDoor
