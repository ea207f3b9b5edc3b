/-
  The frame, part 19: bytes of texts, texts of bytes, new rows of numbers, copies, ranging over a text.
-/
import Derived.Test.YtifoddpbmlajfaaGreatDoorS5
import Derived.Test.YtifoddpbmlajfaaGreatDoorS4
import Derived.Laws.IdiomStrings
import Derived.Lib.Bytealg
import Derived.Laws.Externs
namespace Go.Proofs.YtifoddpbmlajfaaGreatDoor
open Go Go.RowKit

def bv (b : UInt8) : AV := .int .u8 ((b.toNat : Nat) : Int)
theorem Sat.new_row_at {g : G} {H : Heap} {w : World} (h : Sat g H w) (T : TypeId) {cs : List AV} {vs : Array Value} {fz : Nat × Nat} (ht : Thaw vs.size fz) (hr : RelCells g cs vs) :
    Sat g (H.set w.heap.size (.box T cs)) (w.alloc (.cells vs T fz)) :=
  (h.alloc (.cells vs T fz)).claim (by have := h.below.size; exact this) h.imm_new h.tok_new (.box T cs) ⟨vs, ⟨fz, heap_alloc_new _ _, ht⟩, hr⟩
theorem relcells_map {g : G} {α : Type} {l : List α} {f : α → AV} {h : α → Value} (hr : ∀ a, RelV g (f a) (h a)) : RelCells g (l.map f) (l.map h).toArray := by
  refine ⟨by simp, fun i c v hc hv => ?_⟩
  rw [List.getElem?_map] at hc
  simp only [List.getElem?_toArray, List.getElem?_map] at hv
  cases hi : l[i]? with
  | none => rw [hi] at hc; cases hc
  | some a => rw [hi] at hc hv; cases hc; cases hv; exact hr a
theorem relcells_rep {g : G} {n : Nat} {c : AV} {v : Value} (hr : RelV g c v) : RelCells g (List.replicate n c) (Array.replicate n v) := by
  refine ⟨by simp, fun i x u hx hu => ?_⟩
  simp only [List.getElem?_replicate] at hx
  simp only [Array.getElem?_replicate] at hu
  split at hx
  · rename_i hi; rw [if_pos hi] at hu; cases hx; cases hu; exact hr
  · cases hx

section
variable {P : Program} {env : Env} {H : Heap} {dst : Option Tmp} {ty : TypeId} {pos : String} {af : Array Edge} {gd : Option (Nat × Bool)}

theorem step_bytes {S D E : TypeId} {x : Operand} {s : List UInt8} (u1 : P.underlying S = some .string) (u2 : P.underlying D = some (.slice E)) (u3 : P.underlying E = some (.int .u8)) (hx : Ev env x (.str s)) (hl : s.length ≤ 16777216) :
    AStep P ⟨dst, .convert S D x, ty, pos, af, gd⟩ env H (fun y H' => ∃ b c, y = .mslice (some ⟨b, 0, none⟩) s.length c ∧ s.length ≤ c ∧ c ≤ maxLen ∧ H.objs b = none ∧ H' = H.set b (.box E (s.map bv ++ List.replicate (c - s.length) (.int .u8 0)))) := by
  intro g n a w ka st
  obtain ⟨v, he, hv⟩ := ev1 hx ka
  cases hv with
  | str s hs =>
    have hrun := run_bytes_of_string (P := P) w S D E ⟨s.toArray⟩ u1 u2 u3
    rw [bmk] at hrun
    let nc := grownCap w s.length 0 E
    have hnc : s.length ≤ nc ∧ nc ≤ maxLen := by
      show s.length ≤ s.length + _ % (2 ^ 63 - s.length) ∧ _
      refine ⟨Nat.le_add_right _ _, ?_⟩
      show s.length + w.tape w.drawn (.appendCap s.length 0 E) % (2 ^ 63 - s.length) ≤ maxLen
      have : w.tape w.drawn (.appendCap s.length 0 E) % (2 ^ 63 - s.length) < 2 ^ 63 - s.length := Nat.mod_lt _ (by omega)
      unfold maxLen
      omega
    have : (execOp a.eval ⟨dst, .convert S D x, ty, pos, af, gd⟩).run P w = .ok (.value (.slice (some ⟨w.heap.size, 0, none⟩) s.length nc)) (w.drew.alloc (.cells (bytesRow ⟨s.toArray⟩ nc) E ((bytesRow ⟨s.toArray⟩ nc).size, (bytesRow ⟨s.toArray⟩ nc).size + 1))) := by
      simp [execOp, he, hrun]
      exact ⟨rfl, rfl⟩
    rw [this]
    have hrel : RelCells g (s.map bv ++ List.replicate (nc - s.length) (.int .u8 0)) (bytesRow ⟨s.toArray⟩ nc) := by
      unfold bytesRow
      refine RelCells.append ?_ (relcells_rep (.int _ _))
      have := relcells_map (g := g) (l := s) (f := bv) (h := fun b => Value.int .u8 b.toNat) (fun b => .int _ _)
      simpa using this
    exact ⟨g, _, _, .id, .mslice _ _ _, st.drew.new_row_at E (.inr (Nat.le_refl _)) hrel, _, _, rfl, hnc.1, hnc.2, st.new_none, rfl⟩
theorem cells_bytes {g : G} {l : List UInt8} {us : Array Value} (h : RelCells g (l.map bv) us) : us = (l.map fun b => Value.int .u8 (b.toNat : Int)).toArray := by
  apply Array.ext_getElem?
  intro i
  by_cases hi : i < l.length
  · have h1 : (l.map bv)[i]? = some (bv l[i]) := by simp [hi]
    obtain ⟨v, hv, hr⟩ := h.at h1
    cases hr
    rw [hv]; simp [hi]
  · have := h.1
    rw [Array.getElem?_eq_none (by simp at this; omega), Array.getElem?_eq_none (by simp; omega)]
theorem run_text {S D E : TypeId} {w : World} {a : Addr} {cap : Nat} {l : List UInt8} (u1 : P.underlying S = some (.slice E)) (u2 : P.underlying D = some .string) (u3 : P.underlying E = some (.int .u8))
    (h : (loadCells a l.length).run P w = .ok (l.map fun b => Value.int .u8 (b.toNat : Int)).toArray w) : (convert S D (.slice (some a) l.length cap)).run P w = .ok (.string ⟨l.toArray⟩) w := by
  rw [run_convert_bytes_string (P := P) w S D E (some a) l.length cap u1 u3 u2]
  have := run_bytesToString (P := P) w a l.length cap (l.map fun b => (b.toNat : Int)) (by rw [h]; simp [Function.comp_def])
  rw [this, foldl_push_byteCells]
  simp [ByteArray.empty, ByteArray.emptyWithCapacity]
  rfl
theorem step_text {S D E T : TypeId} {x : Operand} {b o c n : Nat} {cs : List AV} {l : List UInt8} (u1 : P.underlying S = some (.slice E)) (u2 : P.underlying D = some .string) (u3 : P.underlying E = some (.int .u8))
    (hx : Ev env x (.mslice (some ⟨b, o, none⟩) n c)) (hb : H.objs b = some (.box T cs)) (hn : l.length = n) (hc : (cs.drop o).take n = l.map bv) (hl : n ≤ maxLen) :
    AStep P ⟨dst, .convert S D x, ty, pos, af, gd⟩ env H (fun y H' => y = .str l ∧ H' = H) := by
  subst hn
  intro g n a w ka st
  obtain ⟨v, he, hv⟩ := ev1 hx ka
  cases hv
  have hlen : l = [] ∨ o + l.length ≤ cs.length := by
    have := congrArg List.length hc
    simp only [List.length_take, List.length_drop, List.length_map] at this
    rcases Nat.eq_zero_or_pos l.length with h | h
    · exact .inl (List.length_eq_zero_iff.1 h)
    · exact .inr (by omega)
  have hload : (loadCells ⟨b, o, none⟩ l.length).run P w = .ok (l.map fun b => Value.int .u8 (b.toNat : Int)).toArray w := by
    rcases hlen with rfl | hlen
    · rfl
    · obtain ⟨us, h1, h2⟩ := box_load (P := P) st hb hlen
      rw [hc] at h2
      rw [h1, cells_bytes h2]
  have hr := run_text (cap := c) u1 u2 u3 hload
  have : (execOp a.eval ⟨dst, .convert S D x, ty, pos, af, gd⟩).run P w = .ok (.value (.string ⟨l.toArray⟩)) w := by simp [execOp, he, hr]
  rw [this]
  exact ⟨g, _, H, .id, .str _ hl, st, rfl, rfl⟩
/-! ### new rows of numbers -/
/-! ### ranging over a text -/
theorem run_getIter {w : World} {r p : Nat} {s : ByteArray} (h : w.heap[r]? = some (.stringIter s p)) : (getObj r).run P w = .ok (.stringIter s p) w := by simp [getObj, Sem.run, h]
theorem run_setIter {w : World} {r p : Nat} {s : ByteArray} (o : Obj) (h : w.heap[r]? = some (.stringIter s p)) : (setObj r o).run P w = .ok () { w with heap := w.heap.setIfInBounds r o } := by simp [setObj, Sem.run, h]
end
end Go.Proofs.YtifoddpbmlajfaaGreatDoor

namespace Go.Proofs.YtifoddpbmlajfaaGreatDoor
open Go Go.RowKit
def IsExt (P : Program) (f : FuncId) (e : Array Value → Sem Value) : Prop :=
  ∃ fn, P.funcs[f]? = some fn ∧ (fn.name == "runtime.NumGoroutine") = false ∧ fn.body.isNone = true ∧ Extern.findNext fn = none ∧ Extern.find fn = some e
theorem IsExt.run {P : Program} {f : FuncId} {e : Array Value → Sem Value} (h : IsExt P f e) (args : Array Value) (w : World) : (callFunc f args).run P w = ((e args).run P w).andThen fun v w' => .ok (.value v) w' := by
  obtain ⟨fn, h1, h2, h3, h4, h5⟩ := h
  exact run_callFunc_extern h1 h2 h3 h4 h5 args w
theorem RelVs.nil {g : G} {vs : List Value} (h : RelVs g [] vs) : vs = [] := by
  have := h.1
  cases vs with
  | nil => rfl
  | cons => simp at this
theorem RelVs.cons {g : G} {x : AV} {xs : List AV} {vs : List Value} (h : RelVs g (x :: xs) vs) : ∃ v us, vs = v :: us ∧ RelV g x v ∧ RelVs g xs us := by
  obtain ⟨h1, h2⟩ := h
  cases vs with
  | nil => simp at h1
  | cons v us => exact ⟨v, us, rfl, h2 0 x v rfl rfl, by simpa using h1, fun i y u hy hu => h2 (i + 1) y u (by simpa using hy) (by simpa using hu)⟩
theorem RelV.two {g : G} {x y : AV} {v u : Value} (h : RelV g x v) (k : RelV g y u) : RelV g (.tuple [x, y]) (.tuple #[v, u]) := by
  refine .tuple _ _ rfl fun i c z hc hz => ?_
  match i with
  | 0 => simp at hc hz; subst hc; subst hz; exact h
  | 1 => simp at hc hz; subst hc; subst hz; exact k
  | _ + 2 => simp at hc
section
variable {P : Program} {env : Env} {H : Heap} {dst : Option Tmp} {ty : TypeId} {pos : String} {af : Array Edge} {gd : Option (Nat × Bool)}
def seqFill : List (Nat × Nat) → Nat → Nat → List (Nat × AV) → Option (List AV)
  | [], _, _, [] => some []
  | (off, size) :: pl, k, o, (i, x) :: qs => if off = o ∧ i = k ∧ x.cells.length = size then (seqFill pl (k + 1) (o + size) qs).map (x.cells ++ ·) else none
  | _, _, _, _ => none
theorem fillA_seq {places : List (Nat × Nat)} {zs : List AV} : ∀ (pl : List (Nat × Nat)) (k : Nat) (pre cs : List AV) (qs : List (Nat × AV)), places.drop k = pl → seqFill pl k pre.length qs = some cs → pre.length + cs.length = zs.length →
    fillA (places[·]?) (pre ++ zs.drop pre.length) qs = some (pre ++ cs)
  | [], k, pre, cs, [], _, h, hl => by
    simp only [seqFill, Option.some.injEq] at h
    subst h
    simp only [List.length_nil, Nat.add_zero] at hl
    rw [hl]; simp [fillA]
  | [], k, pre, cs, q :: qs, _, h, _ => by simp [seqFill] at h
  | p :: pl, k, pre, cs, [], _, h, _ => by simp [seqFill] at h
  | (off, size) :: pl, k, pre, cs, (i, x) :: qs, hp, h, hl => by
    simp only [seqFill] at h
    split at h
    · rename_i hc
      obtain ⟨rfl, rfl, hs⟩ := hc
      obtain ⟨ds, hd, rfl⟩ := Option.map_eq_some_iff.1 h
      have hpl : places[i]? = some (pre.length, size) := by
        have := congrArg (·[0]?) hp
        simpa using this
      simp only [fillA, hpl]
      simp only [List.length_append] at hl
      rw [if_pos ⟨hs, by simp; omega⟩]
      have e : putRow (pre ++ zs.drop pre.length) pre.length x.cells = (pre ++ x.cells) ++ zs.drop (pre ++ x.cells).length := by
        simp [putRow, List.drop_append]
      rw [e]
      have := fillA_seq (zs := zs) pl (i + 1) (pre ++ x.cells) ds qs (by rw [← List.drop_drop, hp]; rfl) (by rw [List.length_append, hs]; exact hd) (by simp; omega)
      rw [this, List.append_assoc]
    · cases h
theorem pure_buildS {T : TypeId} {fs : Array Field} {ops : List (Nat × Operand)} {qs : List (Nat × AV)} {z : Value} {zs cs : List AV} (places : List (Nat × Nat)) (hu : P.underlying T = some (.struct fs)) (hz : ∀ w, (zeroValue T).run P w = .ok z w)
    (hzr : ∀ g, RelCells g zs z.cells) (hp : fs.toList.map (·.offset) = places.map (·.1)) (hs : ∀ (i : Nat) f p, fs[i]? = some f → places[i]? = some p → ∀ w, (sizeOf f.type).run P w = .ok p.2 w)
    (hq : Parts env ops qs) (hf : seqFill places 0 0 qs = some cs) (hl : Nat.beq cs.length zs.length = true) : APure P ⟨dst, .build T ops.toArray, ty, pos, af, gd⟩ env (.agg cs) :=
  pure_build places hu hz hzr hp hs hq (by
    have := fillA_seq (places := places) (zs := zs) places 0 [] cs qs rfl hf (by have := Nat.eq_of_beq_eq_true hl; simpa using this)
    simpa using this)
theorem step_loadK {T : TypeId} {x : Operand} {b o : Nat} {c : AV} (ha : ∀ w, (isAgg T).run P w = .ok false w) (hx : Ev env x (.ptr (some ⟨b, o, none⟩))) (hk : ∀ W, Inv W → ∃ v, W.cell? ⟨b, o, none⟩ = some v ∧ ∀ g, RelV g c v) :
    AStep P ⟨dst, .load T x, ty, pos, af, gd⟩ env H (fun y H' => y = c ∧ H' = H) := by
  intro g n a w ka s
  obtain ⟨v, he, hv⟩ := ev1 hx ka
  cases hv
  obtain ⟨u, hu, hr⟩ := hk _ g.hinv
  have hlt : b < g.base.heap.size := World.block_lt_of_cell? _ (a := ⟨b, o, none⟩) hu
  have hu' : w.cell? ⟨b, o, none⟩ = some u := by rw [World.cell?_of_block (w := g.base) (s.below.block b hlt)]; exact hu
  have : (execOp a.eval ⟨dst, .load T x, ty, pos, af, gd⟩).run P w = .ok (.value u) w := by simp [execOp, he, Instr.loadAt, Instr.sureAddr, loadVar, ha, hu']
  rw [this]
  exact ⟨g, c, H, .id, hr g, s, rfl, rfl⟩
end
end Go.Proofs.YtifoddpbmlajfaaGreatDoor

namespace Go.Proofs.YtifoddpbmlajfaaGreatDoor
open Go Go.RowKit

def U (k : IntKind) (xs : List Nat) : List AV := xs.map fun a : Nat => .int k (a : Int)
theorem U_len (k : IntKind) (xs : List Nat) : (U k xs).length = xs.length := List.length_map _
section
variable {P : Program} {env : Env} {H : Heap} {dst : Option Tmp} {ty : TypeId} {pos : String} {af : Array Edge} {gd : Option (Nat × Bool)}
theorem pure_lenU {T E : TypeId} {x : Operand} {k : IntKind} {xs : List Nat} {tl : Tail} (hu : P.underlying T = some (.slice E)) (hx : Ev env x (.slice 1 (U k xs) tl)) :
    APure P ⟨dst, .call { callee := .builtin .len, args := #[x], argTypes := #[T] }, ty, pos, af, gd⟩ env (.int .i64 (xs.length : Int)) := by
  have := pure_lenS (P := P) (dst := dst) (ty := ty) (pos := pos) (af := af) (gd := gd) hu hx
  rwa [U_len] at this
end
end Go.Proofs.YtifoddpbmlajfaaGreatDoor

namespace Go.Proofs.YtifoddpbmlajfaaGreatDoor
open Go Go.RowKit

section
variable {P : Program} {n : Fr} {ops : Array Oper}
def XTwo (P : Program) (n : Fr) (ops : Array Oper) (Q : Exit → Env → Heap → Prop) (i : Nat) (r : List (Nat × Bool)) (env : Env) (H : Heap) : Prop :=
  XOp P n ops i (APlan P n ops Q r) env H
theorem XTwo.s {Q : Exit → Env → Heap → Prop} {i : Nat} {r : List (Nat × Bool)} {env : Env} {H : Heap} {op : Op} {ty : TypeId} {pos : String} {af : Array Edge} {d : Tmp} {R : AV → Heap → Prop} (hi : ops[i]? = some ⟨some d, op, ty, pos, af, none⟩) (hd : Nat.blt d n.size = true) (h : AStep P ⟨some d, op, ty, pos, af, none⟩ (Env.only (Oper.looksAt ops ⟨some d, op, ty, pos, af, none⟩) env) H R)
    (k : ∀ x H', R x H' → APlan P n ops Q r ((d, x) :: env) H') : XTwo P n ops Q i r env H :=
  ⟨_, hi, hd, .inr ⟨.free rfl, R, h, k⟩⟩
theorem Heap.set_comm {H : Heap} {b c : Nat} (h : b ≠ c) (x y : AObj) : (H.set b x).set c y = (H.set c y).set b x := by
  cases H with
  | mk objs toks =>
    simp only [Heap.set]
    congr 1
    funext k
    by_cases h1 : k = c
    · subst h1; simp [Ne.symm h]
    · by_cases h2 : k = b
      · subst h2; simp [h]
      · simp [h1, h2]
end
end Go.Proofs.YtifoddpbmlajfaaGreatDoor

namespace Go.Proofs.YtifoddpbmlajfaaGreatDoor
open Go Go.RowKit

section
variable {P : Program} {env : Env} {H : Heap} {dst : Option Tmp} {ty : TypeId} {pos : String} {af : Array Edge} {gd : Option (Nat × Bool)}
end
end Go.Proofs.YtifoddpbmlajfaaGreatDoor
