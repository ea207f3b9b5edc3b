import Derived.Test.YtmmgbnolccpjoaaGreatDoorS5
import Derived.Test.YtmmgbnolccpjoaaGreatDoorS4
import Derived.Laws.IdiomStrings
import Derived.Lib.Bytealg
import Derived.Laws.Externs
namespace Go.Proofs.YtmmgbnolccpjoaaGreatDoor
open Go Go.RowKit
section

def bv (b : UInt8) : AV := .int .u8 ((b.toNat : Nat) : Int)
theorem Sat.new_row_at {g : G} {H : Heap} {w : World} (h : Sat g H w) (T : TypeId) {cs : List AV} {vs : Array Value} {fz : Nat × Nat} (ht : Thaw vs.size fz) (hr : RelCells g cs vs) :
  Sat g (H.set w.heap.size (.box T cs)) (w.alloc (.cells vs T fz)) :=
 (h.alloc (.cells vs T fz)).claim (by have := h.below.size; exact this) h.imm_new h.tok_new (.box T cs) ⟨vs, ⟨fz, abZ _ _, ht⟩, hr⟩
theorem aiZ {g : G} {α : Type} {l : List α} {f : α → AV} {h : α → Value} (hr : ∀ a, RelV g (f a) (h a)) : RelCells g (l.map f) (l.map h).toArray := by
 refine ⟨by simp, fun i c v hc hv => ?_⟩
 rw [List.getElem?_map] at hc
 simp only [List.getElem?_toArray, List.getElem?_map] at hv
 cases hi : l[i]? with
 | none => rw [hi] at hc; cases hc
 | some a => rw [hi] at hc hv; cases hc; cases hv; exact hr a
theorem aiY {g : G} {n : Nat} {c : AV} {v : Value} (hr : RelV g c v) : RelCells g (List.replicate n c) (Array.replicate n v) := by
 refine ⟨by simp, fun i x u hx hu => ?_⟩
 simp only [List.getElem?_replicate] at hx
 simp only [Array.getElem?_replicate] at hu
 split at hx
 ·rename_i hi; rw [if_pos hi] at hu; cases hx; cases hu; exact hr
 ·cases hx

section
variable {P : Program} {env : Env} {H : Heap} {dst : Option Tmp} {ty : TypeId} {pos : String} {af : Array Edge} {gd : Option (Nat × Bool)}

theorem ayZ {S D E : TypeId} {x : Operand} {s : List UInt8} (u1 : P.underlying S = some .string) (u2 : P.underlying D = some (.slice E)) (u3 : P.underlying E = some (.int .u8)) (hx : Ev env x (.str s)) (hl : s.length ≤ 16777216) :
  AStep P ⟨dst, .convert S D x, ty, pos, af, gd⟩ env H (fun y H' => ∃ b c, y = .mslice (some ⟨b, 0, none⟩) s.length c ∧ s.length ≤ c ∧ c ≤ maxLen ∧ H.objs b = none ∧ H' = H.set b (.box E (s.map bv ++ List.replicate (c - s.length) (.int .u8 0)))) := by
 intro g n a w ka st
 obtain ⟨v, he, hv⟩ := ev1 hx ka
 cases hv with
 | str s hs =>
  have hrun := run_bytes_of_string (P := P) w S D E ⟨s.toArray⟩ u1 u2 u3
  rw [bmk] at hrun
  let nc := grownCap w s.length 0 E
  have hnc : s.length ≤ nc ∧ nc ≤ maxLen := by
   show s.length ≤ s.length + _ % (2 ^ 63 - s.length) ∧ _
   refine ⟨Nat.le_add_right _ _, ?_⟩
   show s.length + w.tape w.drawn (.appendCap s.length 0 E) % (2 ^ 63 - s.length) ≤ maxLen
   have : w.tape w.drawn (.appendCap s.length 0 E) % (2 ^ 63 - s.length) < 2 ^ 63 - s.length := Nat.mod_lt _ (by omega)
   unfold maxLen
   omega
  have : (execOp a.eval ⟨dst, .convert S D x, ty, pos, af, gd⟩).run P w = .ok (.value (.slice (some ⟨w.heap.size, 0, none⟩) s.length nc)) (w.drew.alloc (.cells (bytesRow ⟨s.toArray⟩ nc) E ((bytesRow ⟨s.toArray⟩ nc).size, (bytesRow ⟨s.toArray⟩ nc).size + 1))) := by
   simp [execOp, he, hrun]
   exact ⟨rfl, rfl⟩
  rw [this]
  have hrel : RelCells g (s.map bv ++ List.replicate (nc - s.length) (.int .u8 0)) (bytesRow ⟨s.toArray⟩ nc) := by
   unfold bytesRow
   refine RelCells.append ?_ (aiY (.int _ _))
   have := aiZ (g := g) (l := s) (f := bv) (h := fun b => Value.int .u8 b.toNat) (fun b => .int _ _)
   simpa using this
  exact ⟨g, _, _, .id, .mslice _ _ _, st.drew.new_row_at E (.inr (Nat.le_refl _)) hrel, _, _, rfl, hnc.1, hnc.2, st.new_none, rfl⟩
theorem awB {g : G} {l : List UInt8} {us : Array Value} (h : RelCells g (l.map bv) us) : us = (l.map fun b => Value.int .u8 (b.toNat : Int)).toArray := by
 apply Array.ext_getElem?
 intro i
 by_cases hi : i < l.length
 ·have h1 : (l.map bv)[i]? = some (bv l[i]) := by simp [hi]
  obtain ⟨v, hv, hr⟩ := h.at h1
  cases hr
  rw [hv]; simp [hi]
 ·have := h.1
  rw [Array.getElem?_eq_none (by simp at this; omega), Array.getElem?_eq_none (by simp; omega)]
theorem run_text {S D E : TypeId} {w : World} {a : Addr} {cap : Nat} {l : List UInt8} (u1 : P.underlying S = some (.slice E)) (u2 : P.underlying D = some .string) (u3 : P.underlying E = some (.int .u8))
  (h : (loadCells a l.length).run P w = .ok (l.map fun b => Value.int .u8 (b.toNat : Int)).toArray w) : (convert S D (.slice (some a) l.length cap)).run P w = .ok (.string ⟨l.toArray⟩) w := by
 rw [run_convert_bytes_string (P := P) w S D E (some a) l.length cap u1 u3 u2]
 have := run_bytesToString (P := P) w a l.length cap (l.map fun b => (b.toNat : Int)) (by rw [h]; simp [Function.comp_def])
 rw [this, foldl_push_byteCells]
 simp [ByteArray.empty, ByteArray.emptyWithCapacity]
 rfl
theorem bdF {S D E T : TypeId} {x : Operand} {b o c n : Nat} {cs : List AV} {l : List UInt8} (u1 : P.underlying S = some (.slice E)) (u2 : P.underlying D = some .string) (u3 : P.underlying E = some (.int .u8))
  (hx : Ev env x (.mslice (some ⟨b, o, none⟩) n c)) (hb : H.objs b = some (.box T cs)) (hn : l.length = n) (hc : (cs.drop o).take n = l.map bv) (hl : n ≤ maxLen) :
  AStep P ⟨dst, .convert S D x, ty, pos, af, gd⟩ env H (fun y H' => y = .str l ∧ H' = H) := by
 subst hn
 intro g n a w ka st
 obtain ⟨v, he, hv⟩ := ev1 hx ka
 cases hv
 have hlen : l = [] ∨ o + l.length ≤ cs.length := by
  have := congrArg List.length hc
  simp only [List.length_take, List.length_drop, List.length_map] at this
  rcases Nat.eq_zero_or_pos l.length with h | h
  ·exact .inl (List.length_eq_zero_iff.1 h)
  ·exact .inr (by omega)
 have hload : (loadCells ⟨b, o, none⟩ l.length).run P w = .ok (l.map fun b => Value.int .u8 (b.toNat : Int)).toArray w := by
  rcases hlen with rfl | hlen
  ·rfl
  ·obtain ⟨us, h1, h2⟩ := aqJ (P := P) st hb hlen
   rw [hc] at h2
   rw [h1, awB h2]
 have hr := run_text (cap := c) u1 u2 u3 hload
 have : (execOp a.eval ⟨dst, .convert S D x, ty, pos, af, gd⟩).run P w = .ok (.value (.string ⟨l.toArray⟩)) w := by simp [execOp, he, hr]
 rw [this]
 exact ⟨g, _, H, .id, .str _ hl, st, rfl, rfl⟩
/-! ### new rows of numbers -/
theorem amS {T E : TypeId} {l c : Operand} {k : IntKind} {m : Nat} {ti : TypeInfo} (hu : P.underlying T = some (.slice E)) (hti : ∀ w, (typeInfo E).run P w = .ok ti w) (hs : ∀ w, (sizeOf E).run P w = .ok 1 w) (hz : ∀ w, (zeroValue E).run P w = .ok (.int k 0) w)
  (hl : Ev env l (.int .i64 (m : Int))) (hc : Ev env c (.int .i64 (m : Int))) (hb : ti.bytes ≤ 64) (hm : m ≤ 1000000000) :
  AStep P ⟨dst, .makeSlice T l c, ty, pos, af, gd⟩ env H (fun y H' => ∃ b, y = .mslice (some ⟨b, 0, none⟩) m m ∧ H.objs b = none ∧ H' = H.set b (.box E (List.replicate m (.int k 0)))) := by
 intro g n a w ka st
 obtain ⟨v1, he1, hv1⟩ := ev1 hl ka
 obtain ⟨v2, he2, hv2⟩ := ev1 hc ka
 cases hv1; cases hv2
 have hun : ∀ w, (underlying T).run P w = .ok (.slice E) w := fun w => run_underlying hu w
 have w0 : IntKind.i64.wrap ((m : Nat) : Int) = (m : Int) := by simp [IntKind.wrap, IntKind.bits, IntKind.signed]; omega
 have hbytes : ti.bytes * m ≤ 64 * 1000000000 := Nat.mul_le_mul hb hm
 have hrun : (execOp a.eval ⟨dst, .makeSlice T l c, ty, pos, af, gd⟩).run P w = .ok (.value (.slice (some ⟨w.heap.size, 0, none⟩) m m)) (w.alloc (.cells (Array.replicate m (.int k 0)) E)) := by
  simp only [execOp, Instr.makeSlice, he1, he2]
  simp only [Sem.run_bind, hun, Result.andThen_ok, asInt, asIntOf, Sem.run_pure, hti, w0]
  have n1 : ¬ ((m : Int) < 0) := by omega
  have n2 : ¬ ((281474976710656 : Int) < (ti.bytes : Int) * (m : Int)) := by
   have : (ti.bytes : Int) * (m : Int) = ((ti.bytes * m : Nat) : Int) := by simp
   rw [this]; omega
  have n5 : ¬ (m * ti.bytes > roomBytes) := by unfold roomBytes; rw [Nat.mul_comm]; omega
  have n6 : ¬ ((m : Int) < (m : Int)) := by omega
  simp [n1, n2, askRoom, n5, hs]
  by_cases e0 : m = 0
  ·subst e0
   simp [newRow]
   rw [show Array.range 0 = #[] from rfl]; simp
  ·simp [hz, newRow, e0]
   have : (Array.map (fun x => (Value.int k 0).cells[x % (Value.int k 0).cells.size]!) (Array.range m)) = Array.replicate m (Value.int k 0) := by
    apply Array.ext
    ·simp
    ·intro i h1 h2
     simp [Value.cells, Nat.mod_one]
   have hzc : (Value.int k 0).cells.size = 1 := rfl
   rw [hzc] at this
   simp only [hzc, this]
 rw [hrun]
 exact ⟨g, _, _, .id, .mslice _ _ _, st.new_box E (aiY (.int _ _)), _, rfl, st.new_none, rfl⟩

/-! ### ranging over a text -/
theorem ayY {T : TypeId} {x : Operand} {s : List UInt8} (hu : P.underlying T = some .string) (hx : Ev env x (.str s)) :
  AStep P ⟨dst, .range T x, ty, pos, af, gd⟩ env H (fun y H' => ∃ b, y = .ptr (some ⟨b, 0, none⟩) ∧ H.objs b = none ∧ H' = H.set b (.raw (.stringIter ⟨s.toArray⟩ 0))) := by
 intro g n a w ka st
 obtain ⟨v, he, hv⟩ := ev1 hx ka
 cases hv
 have u1 : ∀ w, (underlying T).run P w = .ok .string w := fun w => run_underlying hu w
 have : (execOp a.eval ⟨dst, .range T x, ty, pos, af, gd⟩).run P w = .ok (.value (.pointer (some ⟨w.heap.size, 0, none⟩))) (w.alloc (.stringIter ⟨s.toArray⟩ 0)) := by simp [execOp, he, Instr.range, u1]
 rw [this]
 exact ⟨g, _, _, .id, .ptr _, st.new_raw _, _, rfl, st.new_none, rfl⟩
theorem akO {w : World} {r p : Nat} {s : ByteArray} (h : w.heap[r]? = some (.stringIter s p)) : (getObj r).run P w = .ok (.stringIter s p) w := by simp [getObj, Sem.run, h]
theorem auP {w : World} {r p : Nat} {s : ByteArray} (o : Obj) (h : w.heap[r]? = some (.stringIter s p)) : (setObj r o).run P w = .ok () { w with heap := w.heap.setIfInBounds r o } := by simp [setObj, Sem.run, h]
theorem bdG {x : Operand} {b p : Nat} {s : List UInt8} (hx : Ev env x (.ptr (some ⟨b, 0, none⟩))) (hb : H.objs b = some (.raw (.stringIter ⟨s.toArray⟩ p))) :
  AStep P ⟨dst, .next x true, ty, pos, af, gd⟩ env H (fun y H' => ∃ q, y = .tuple (.bool (decide (p < s.length)) :: q) ∧ (p < s.length → q = [.int .i64 p, .int .i32 (Utf8.decode ⟨s.toArray⟩ p).1] ∧ H' = H.set b (.raw (.stringIter ⟨s.toArray⟩ (p + (Utf8.decode ⟨s.toArray⟩ p).2)))) ∧ (¬ p < s.length → q = [] ∧ H' = H)) := by
 intro g n a w ka st
 obtain ⟨v, he, hv⟩ := ev1 hx ka
 cases hv
 have hw := st.raw b _ hb
 have hlt : b < w.heap.size := (Array.getElem?_eq_some_iff.1 hw).1
 have hsz := bmk s
 by_cases hp : p < s.length
 ·have : (execOp a.eval ⟨dst, .next x true, ty, pos, af, gd⟩).run P w = .ok (.value (.tuple #[.bool true, goInt p, .int .i32 (Utf8.decode ⟨s.toArray⟩ p).1])) { w with heap := w.heap.setIfInBounds b (.stringIter ⟨s.toArray⟩ (p + (Utf8.decode ⟨s.toArray⟩ p).2)) } := by
   simp [execOp, he, Instr.next, akO hw, auP _ hw, hsz, hp]
  rw [this]
  refine ⟨g, .tuple [.bool true, .int .i64 p, .int .i32 (Utf8.decode ⟨s.toArray⟩ p).1], _, .id, .tuple _ _ rfl fun i c u hc hu => ?_, st.turn hb (fun j hj => ?_) (by simp) rfl rfl rfl (x' := .raw (.stringIter ⟨s.toArray⟩ (p + (Utf8.decode ⟨s.toArray⟩ p).2))) (by simp [hlt]), _, by rw [decide_eq_true hp], fun _ => ⟨rfl, rfl⟩, fun h => absurd hp h⟩
  ·match i with
   | 0 => simp at hc hu; subst hc; subst hu; exact .bool _
   | 1 => simp at hc hu; subst hc; subst hu; exact .int _ _
   | 2 => simp at hc hu; subst hc; subst hu; exact .int _ _
   | i + 3 => simp at hc
  ·simp only [Array.getElem?_setIfInBounds]; rw [if_neg (Ne.symm hj)]
 ·have : (execOp a.eval ⟨dst, .next x true, ty, pos, af, gd⟩).run P w = .ok (.value (.tuple #[.bool false])) w := by
   simp [execOp, he, Instr.next, akO hw, hsz, hp]
  rw [this]
  refine ⟨g, .tuple [.bool false], H, .id, .tuple _ _ rfl fun i c u hc hu => ?_, st, _, by rw [decide_eq_false hp], fun h => absurd h hp, fun _ => ⟨rfl, rfl⟩⟩
  match i with
  | 0 => simp at hc hu; subst hc; subst hu; exact .bool _
  | i + 1 => simp at hc
end
end
section
open Go Go.RowKit
def IsExt (P : Program) (f : FuncId) (e : Array Value → Sem Value) : Prop :=
 ∃ fn, P.funcs[f]? = some fn ∧ (fn.name == "runtime.NumGoroutine") = false ∧ fn.body.isNone = true ∧ Extern.findNext fn = none ∧ Extern.find fn = some e
theorem IsExt.run {P : Program} {f : FuncId} {e : Array Value → Sem Value} (h : IsExt P f e) (args : Array Value) (w : World) : (callFunc f args).run P w = ((e args).run P w).andThen fun v w' => .ok (.value v) w' := by
 obtain ⟨fn, h1, h2, h3, h4, h5⟩ := h
 exact run_callFunc_extern h1 h2 h3 h4 h5 args w
theorem RelVs.nil {g : G} {vs : List Value} (h : RelVs g [] vs) : vs = [] := by
 have := h.1
 cases vs with
 | nil => rfl
 | cons => simp at this
theorem RelVs.cons {g : G} {x : AV} {xs : List AV} {vs : List Value} (h : RelVs g (x :: xs) vs) : ∃ v us, vs = v :: us ∧ RelV g x v ∧ RelVs g xs us := by
 obtain ⟨h1, h2⟩ := h
 cases vs with
 | nil => simp at h1
 | cons v us => exact ⟨v, us, rfl, h2 0 x v rfl rfl, by simpa using h1, fun i y u hy hu => h2 (i + 1) y u (by simpa using hy) (by simpa using hu)⟩
theorem RelV.two {g : G} {x y : AV} {v u : Value} (h : RelV g x v) (k : RelV g y u) : RelV g (.tuple [x, y]) (.tuple #[v, u]) := by
 refine .tuple _ _ rfl fun i c z hc hz => ?_
 match i with
 | 0 => simp at hc hz; subst hc; subst hz; exact h
 | 1 => simp at hc hz; subst hc; subst hz; exact k
 | _ + 2 => simp at hc
section
variable {P : Program} {env : Env} {H : Heap} {dst : Option Tmp} {ty : TypeId} {pos : String} {af : Array Edge} {gd : Option (Nat × Bool)}
theorem step_ext {f : FuncId} {e : Array Value → Sem Value} {os : Array Operand} {xs : List AV} {ts : Array TypeId} {r : AV} (he : IsExt P f e) (ha : Evs env os.toList xs)
  (h : ∀ g vs w, RelVs g xs vs → ∃ v, (e vs.toArray).run P w = .ok v w ∧ RelV g r v) : AStep P ⟨dst, .call { callee := .value (.func f), args := os, argTypes := ts }, ty, pos, af, gd⟩ env H (fun y H' => y = r ∧ H' = H) := by
 intro g n a w ka st
 have hr := ha.rel ka
 obtain ⟨v, hrun, hv⟩ := h g _ w hr
 have e2 : (os.toList.map a.eval).toArray = os.map a.eval := by apply Array.ext'; simp
 rw [e2] at hrun
 have : (execOp a.eval ⟨dst, .call { callee := .value (.func f), args := os, argTypes := ts }, ty, pos, af, gd⟩).run P w = .ok (.value v) w := by
  have := he.run (os.map a.eval) w
  rw [hrun] at this
  simp [execOp, resolve, Deferred.ofValue, invoke]
  have e3 : a.eval (.func f) = .func (.func f) #[] #[] := rfl
  simp [e3, this]
 rw [this]
 exact ⟨g, r, H, .id, hv, st, rfl, rfl⟩
def agJ : List (Nat × Nat) → Nat → Nat → List (Nat × AV) → Option (List AV)
 | [], _, _, [] => some []
 | (off, size) :: pl, k, o, (i, x) :: qs => if off = o ∧ i = k ∧ x.cells.length = size then (agJ pl (k + 1) (o + size) qs).map (x.cells ++ ·) else none
 | _, _, _, _ => none
theorem asU {places : List (Nat × Nat)} {zs : List AV} : ∀ (pl : List (Nat × Nat)) (k : Nat) (pre cs : List AV) (qs : List (Nat × AV)), places.drop k = pl → agJ pl k pre.length qs = some cs → pre.length + cs.length = zs.length →
  agS (places[·]?) (pre ++ zs.drop pre.length) qs = some (pre ++ cs)
 | [], k, pre, cs, [], _, h, hl => by
  simp only [agJ, Option.some.injEq] at h
  subst h
  simp only [List.length_nil, Nat.add_zero] at hl
  rw [hl]; simp [agS]
 | [], k, pre, cs, q :: qs, _, h, _ => by simp [agJ] at h
 | p :: pl, k, pre, cs, [], _, h, _ => by simp [agJ] at h
 | (off, size) :: pl, k, pre, cs, (i, x) :: qs, hp, h, hl => by
  simp only [agJ] at h
  split at h
  ·rename_i hc
   obtain ⟨rfl, rfl, hs⟩ := hc
   obtain ⟨ds, hd, rfl⟩ := Option.map_eq_some_iff.1 h
   have hpl : places[i]? = some (pre.length, size) := by
    have := congrArg (·[0]?) hp
    simpa using this
   simp only [agS, hpl]
   simp only [List.length_append] at hl
   rw [if_pos ⟨hs, by simp; omega⟩]
   have e : putRow (pre ++ zs.drop pre.length) pre.length x.cells = (pre ++ x.cells) ++ zs.drop (pre ++ x.cells).length := by
    simp [putRow, List.drop_append]
   rw [e]
   have := asU (zs := zs) pl (i + 1) (pre ++ x.cells) ds qs (by rw [← List.drop_drop, hp]; rfl) (by rw [List.length_append, hs]; exact hd) (by simp; omega)
   rw [this, List.append_assoc]
  ·cases h
theorem abI {T : TypeId} {fs : Array Field} {ops : List (Nat × Operand)} {qs : List (Nat × AV)} {z : Value} {zs cs : List AV} (places : List (Nat × Nat)) (hu : P.underlying T = some (.struct fs)) (hz : ∀ w, (zeroValue T).run P w = .ok z w)
  (hzr : ∀ g, RelCells g zs z.cells) (hp : fs.toList.map (·.offset) = places.map (·.1)) (hs : ∀ (i : Nat) f p, fs[i]? = some f → places[i]? = some p → ∀ w, (sizeOf f.type).run P w = .ok p.2 w)
  (hq : Parts env ops qs) (hf : agJ places 0 0 qs = some cs) (hl : Nat.beq cs.length zs.length = true) : APure P ⟨dst, .build T ops.toArray, ty, pos, af, gd⟩ env (.agg cs) :=
 zL places hu hz hzr hp hs hq (by
   have := asU (places := places) (zs := zs) places 0 [] cs qs rfl hf (by have := Nat.eq_of_beq_eq_true hl; simpa using this)
   simpa using this)
theorem acQ {T : TypeId} {x : Operand} {b o : Nat} {c : AV} (ha : ∀ w, (isAgg T).run P w = .ok false w) (hx : Ev env x (.ptr (some ⟨b, o, none⟩))) (hk : ∀ W, Inv W → ∃ v, W.cell? ⟨b, o, none⟩ = some v ∧ ∀ g, RelV g c v) :
  AStep P ⟨dst, .load T x, ty, pos, af, gd⟩ env H (fun y H' => y = c ∧ H' = H) := by
 intro g n a w ka s
 obtain ⟨v, he, hv⟩ := ev1 hx ka
 cases hv
 obtain ⟨u, hu, hr⟩ := hk _ g.hinv
 have hlt : b < g.base.heap.size := World.block_lt_of_cell? _ (a := ⟨b, o, none⟩) hu
 have hu' : w.cell? ⟨b, o, none⟩ = some u := by rw [World.cell?_of_block (w := g.base) (s.below.block b hlt)]; exact hu
 have : (execOp a.eval ⟨dst, .load T x, ty, pos, af, gd⟩).run P w = .ok (.value u) w := by simp [execOp, he, Instr.loadAt, Instr.sureAddr, loadVar, ha, hu']
 rw [this]
 exact ⟨g, c, H, .id, hr g, s, rfl, rfl⟩
end
end
section
open Go Go.RowKit

def U (k : IntKind) (xs : List Nat) : List AV := xs.map fun a : Nat => .int k (a : Int)
theorem aqN (k : IntKind) (xs : List Nat) : (U k xs).length = xs.length := List.length_map _
theorem U_get {k : IntKind} {xs : List Nat} {j : Nat} (h : j < xs.length) : (U k xs)[j]? = some (.int k ((xs.getD j 0 : Nat) : Int)) := by
 unfold U
 rw [List.getElem?_map, List.getD_eq_getElem?_getD, List.getElem?_eq_getElem h]; rfl
theorem U_put {k : IntKind} {xs : List Nat} {j v : Nat} (h : j < xs.length) : putRow (U k xs) j [.int k (v : Int)] = U k (xs.set j v) := by
 unfold putRow U
 rw [List.map_set, List.set_eq_take_append_cons_drop, if_pos (by simpa using h)]
 simp
theorem U_row (k : IntKind) (xs : List Nat) : ∀ x, x ∈ U k xs → x.row 1 := fun x hx => by
 obtain ⟨a, _, rfl⟩ := List.mem_map.1 hx
 exact ⟨rfl, rfl⟩
theorem U_app (k : IntKind) (xs ys : List Nat) : U k xs ++ U k ys = U k (xs ++ ys) := by simp [U]
theorem U_take (k : IntKind) (xs : List Nat) (n : Nat) : (U k xs).take n = U k (xs.take n) := by simp [U, List.map_take]
theorem U_drop (k : IntKind) (xs : List Nat) (n : Nat) : (U k xs).drop n = U k (xs.drop n) := by simp [U, List.map_drop]

section
variable {P : Program} {env : Env} {H : Heap} {dst : Option Tmp} {ty : TypeId} {pos : String} {af : Array Edge} {gd : Option (Nat × Bool)}
theorem AWP.seqToL {n : Nat} {Q : Exit → Env → Heap → Prop} {a b : Code} (ds : Env) (ks : List Nat) (ha : AWP P n a (fun e env' H' => e = .normal ∧ Env.sub (ds ++ Env.only ks env) env' ∧ H' = H) env H) (hb : AWP P n b Q (ds ++ Env.only ks env) H) : AWP P n (.seq a b) Q env H := by
 refine AWP.seq (ha.mono fun e env' H' hq => ?_)
 obtain ⟨rfl, hs, rfl⟩ := hq
 exact hb.sub _ hs
theorem afB {T E : TypeId} {x : Operand} {k : IntKind} {xs : List Nat} {tl : Tail} (hu : P.underlying T = some (.slice E)) (hx : Ev env x (.slice 1 (U k xs) tl)) :
  APure P ⟨dst, .call { callee := .builtin .len, args := #[x], argTypes := #[T] }, ty, pos, af, gd⟩ env (.int .i64 (xs.length : Int)) := by
 have := adZ (P := P) (dst := dst) (ty := ty) (pos := pos) (af := af) (gd := gd) hu hx
 rwa [aqN] at this
theorem zX {T E : TypeId} {x i : Operand} {k k' : IntKind} {xs : List Nat} {tl : Tail} {m : Int} (j : Nat) (hu : P.underlying T = some (.slice E)) (hs : ∀ w, (sizeOf E).run P w = .ok 1 w)
  (hx : Ev env x (.slice 1 (U k xs) tl)) (hi : Ev env i (.int k' m)) (hj : m = (j : Int)) (h : j < xs.length) : APure P ⟨dst, .indexAddr T x i, ty, pos, af, gd⟩ env (.iptr [.int k ((xs.getD j 0 : Nat) : Int)]) := by
 subst hj
 exact alC hu hs hx hi (Int.natCast_nonneg _) (U_get h)
theorem yR {T E : TypeId} {x i : Operand} {l c b : Nat} {k : IntKind} {m : Int} (j : Nat) (hu : P.underlying T = some (.slice E)) (hs : ∀ w, (sizeOf E).run P w = .ok 1 w)
  (hx : Ev env x (.mslice (some ⟨b, 0, none⟩) l c)) (hi : Ev env i (.int k m)) (hj : m = (j : Int)) (h : j < l) : APure P ⟨dst, .indexAddr T x i, ty, pos, af, gd⟩ env (.ptr (some ⟨b, j, none⟩)) := by
 subst hj
 have := aeO (P := P) (dst := dst) (ty := ty) (pos := pos) (af := af) (gd := gd) hu hs hx hi (Int.natCast_nonneg _) (by omega)
 rwa [show 0 + ((j : Nat) : Int).toNat * 1 = j by omega] at this
theorem aaR {T E : TypeId} {x i : Operand} {l c b o : Nat} {k : IntKind} {m : Int} (j : Nat) (hu : P.underlying T = some (.slice E)) (hs : ∀ w, (sizeOf E).run P w = .ok 1 w)
  (hx : Ev env x (.mslice (some ⟨b, o, none⟩) l c)) (hi : Ev env i (.int k m)) (hj : m = (j : Int)) (h : j < l) : APure P ⟨dst, .indexAddr T x i, ty, pos, af, gd⟩ env (.ptr (some ⟨b, o + j, none⟩)) := by
 subst hj
 have := aeO (P := P) (dst := dst) (ty := ty) (pos := pos) (af := af) (gd := gd) hu hs hx hi (Int.natCast_nonneg _) (by omega)
 rwa [show o + ((j : Nat) : Int).toNat * 1 = o + j by omega] at this
theorem aeL {T E : TypeId} {x i : Operand} {k k' : IntKind} {xs : List Nat} {tl : Tail} {m : Int} (j : Nat) (hu : P.underlying T = some (.slice E)) (hs : ∀ w, (sizeOf E).run P w = .ok 1 w)
  (hx : Ev env x (.slice 1 (U k xs) tl)) (hi : Ev env i (.int k' m)) (hj : m = (j : Int)) (h : j ≤ xs.length) : APure P ⟨dst, .slice T x none (some i) none, ty, pos, af, gd⟩ env (.slice 1 (U k (xs.take j)) .shared) := by
 subst hj
 exact apH (f := fun a : Nat => AV.int k (a : Int)) hu hs hx hi (Int.natCast_nonneg _) (by simpa using h)
theorem ahD {T E : TypeId} {x i : Operand} {k k' : IntKind} {xs : List Nat} {tl : Tail} {m : Int} (j : Nat) (hu : P.underlying T = some (.slice E)) (hs : ∀ w, (sizeOf E).run P w = .ok 1 w)
  (hx : Ev env x (.slice 1 (U k xs) tl)) (hi : Ev env i (.int k' m)) (hj : m = (j : Int)) (h : j ≤ xs.length) : APure P ⟨dst, .slice T x (some i) none none, ty, pos, af, gd⟩ env (.slice 1 (U k (xs.drop j)) tl) := by
 subst hj
 exact apG (f := fun a : Nat => AV.int k (a : Int)) hu hs hx hi (Int.natCast_nonneg _) (by simpa using h)
theorem apE {T E : TypeId} {x i : Operand} {l c b o : Nat} {k : IntKind} {m : Int} (j : Nat) (hu : P.underlying T = some (.slice E)) (hs : ∀ w, (sizeOf E).run P w = .ok 1 w)
  (hx : Ev env x (.mslice (some ⟨b, o, none⟩) l c)) (hi : Ev env i (.int k m)) (hj : m = (j : Int)) (h : j < c) (h2 : j ≤ l) (hl : l ≤ c) : APure P ⟨dst, .slice T x (some i) none none, ty, pos, af, gd⟩ env (.mslice (some ⟨b, o + j, none⟩) (l - j) (c - j)) := by
 subst hj
 have := agN (P := P) (dst := dst) (ty := ty) (pos := pos) (af := af) (gd := gd) (l := some ((j : Int).toNat)) (h := none) hu hs hx (.yes _ _ _ hi (Int.natCast_nonneg _)) .no (by simpa using h2) (by simpa using hl)
 simp only [Option.getD_some, Int.toNat_natCast, Option.getD_none] at this
 rw [if_neg (by omega)] at this
 simpa [Addr.add_off] using this
theorem ahC {T E : TypeId} {x i i' : Operand} {l c b o : Nat} {k k' : IntKind} {m q : Int} (j h : Nat) (hu : P.underlying T = some (.slice E)) (hs : ∀ w, (sizeOf E).run P w = .ok 1 w)
  (hx : Ev env x (.mslice (some ⟨b, o, none⟩) l c)) (hi : Ev env i (.int k m)) (hi' : Ev env i' (.int k' q)) (hj : m = (j : Int)) (hh : q = (h : Int)) (h1 : j ≤ h) (h2 : h ≤ c) (h3 : j < c) : APure P ⟨dst, .slice T x (some i) (some i') none, ty, pos, af, gd⟩ env (.mslice (some ⟨b, o + j, none⟩) (h - j) (c - j)) := by
 subst hj; subst hh
 have := agN (P := P) (dst := dst) (ty := ty) (pos := pos) (af := af) (gd := gd) (l := some ((j : Int).toNat)) (h := some ((h : Int).toNat)) hu hs hx (.yes _ _ _ hi (Int.natCast_nonneg _)) (.yes _ _ _ hi' (Int.natCast_nonneg _)) (by simpa using h1) (by simpa using h2)
 simp only [Option.getD_some, Int.toNat_natCast] at this
 rw [if_neg (by omega)] at this
 simpa [Addr.add_off] using this
theorem qN {T S : TypeId} {x : Operand} {b j : Nat} {k : IntKind} {xs : List Nat} (ha : ∀ w, (isAgg T).run P w = .ok false w) (hx : Ev env x (.ptr (some ⟨b, j, none⟩))) (hb : H.objs b = some (.box S (U k xs))) (h : j < xs.length) :
  AStep P ⟨dst, .load T x, ty, pos, af, gd⟩ env H (fun y H' => y = .int k ((xs.getD j 0 : Nat) : Int) ∧ H' = H) := zQ ha hx hb (U_get h)
theorem qS {T S : TypeId} {p x : Operand} {b j : Nat} {k : IntKind} {xs : List Nat} {v : Nat} (hs : ∀ w, (sizeOf T).run P w = .ok 1 w) (hp : Ev env p (.ptr (some ⟨b, j, none⟩))) (hx : Ev env x (.int k (v : Int))) (hb : H.objs b = some (.box S (U k xs))) (h : j < xs.length) :
  AStep P ⟨dst, .store T p x, ty, pos, af, gd⟩ env H (fun z H' => z = .raw undef ∧ H' = H.set b (.box S (U k (xs.set j v)))) := by
 have := zB (P := P) (dst := dst) (ty := ty) (pos := pos) (af := af) (gd := gd) hs hp hx rfl rfl (.inl rfl) hb (by rw [aqN]; omega)
 rwa [show AV.cells (.int k (v : Int)) = [.int k (v : Int)] from rfl, U_put h] at this
theorem yI {T E : TypeId} {l c : Operand} {k : IntKind} {q q' : Int} {ti : TypeInfo} (m : Nat) (hu : P.underlying T = some (.slice E)) (hti : ∀ w, (typeInfo E).run P w = .ok ti w) (hs : ∀ w, (sizeOf E).run P w = .ok 1 w) (hz : ∀ w, (zeroValue E).run P w = .ok (.int k 0) w)
  (hl : Ev env l (.int .i64 q)) (hc : Ev env c (.int .i64 q')) (hq : q = (m : Int)) (hq' : q' = (m : Int)) (hb : ti.bytes ≤ 64) (hm : m ≤ 1000000000) :
  AStep P ⟨dst, .makeSlice T l c, ty, pos, af, gd⟩ env H (fun y H' => ∃ b, y = .mslice (some ⟨b, 0, none⟩) m m ∧ H.objs b = none ∧ H' = H.set b (.box E (U k (List.replicate m 0)))) := by
 subst hq; subst hq'
 have := amS (P := P) (dst := dst) (ty := ty) (pos := pos) (af := af) (gd := gd) (H := H) hu hti hs hz hl hc hb hm
 have e : U k (List.replicate m 0) = List.replicate m (.int k 0) := by simp [U]
 rw [e]; exact this
theorem aiC {T T' E : TypeId} {x y : Operand} {k : IntKind} {b o n c : Nat} {xs ys : List Nat} {tl : Tail} {S : TypeId} (hu : P.underlying T = some (.slice E)) (hs : ∀ w, (sizeOf E).run P w = .ok 1 w)
  (hx : Ev env x (.mslice (some ⟨b, o, none⟩) n c)) (hy : Ev env y (.slice 1 (U k ys) tl)) (hb : H.objs b = some (.box S (U k xs))) (ho : o + n ≤ xs.length) :
  AStep P ⟨dst, .call { callee := .builtin .copy, args := #[x, y], argTypes := #[T, T'] }, ty, pos, af, gd⟩ env H
   (fun z H' => z = .int .i64 ((min ys.length n : Nat) : Int) ∧ H' = H.set b (.box S (U k (xs.take o ++ ys.take n ++ xs.drop (o + min ys.length n))))) := by
 intro g q a w ka st
 obtain ⟨v, hex, hv⟩ := ev1 hx ka
 obtain ⟨u, hey, hu2⟩ := ev1 hy ka
 cases hv
 have hun : ∀ w, (underlying T).run P w = .ok (.slice E) w := fun w => run_underlying hu w
 obtain ⟨vs, ⟨fz, hw, hth⟩, hrel⟩ := st.box b S _ hb
 have hsz := hrel.1
 rw [aqN] at hsz
 -- what is laid
 have hpiece : ∀ us : Array Value, RelCells g (U k (ys.take n)) us → ∃ w', (storeCells ⟨b, o, none⟩ us.toList).run P w = .ok () w' ∧ Sat g (H.set b (.box S (U k (xs.take o ++ ys.take n ++ xs.drop (o + min ys.length n))))) w' := by
  intro us hus
  have hul : us.size = min n ys.length := by rw [← hus.1, aqN, List.length_take]
  have hone : ∀ v ∈ us.toList, v.oneCell' = true := fun v hv => by
   obtain ⟨i, hi, hiv⟩ := List.getElem_of_mem hv
   have hi' : i < (U k (ys.take n)).length := by rw [hus.1]; simpa using hi
   have h2 := hus.2 i _ v (List.getElem?_eq_getElem hi') (by rw [← Array.getElem?_toList, List.getElem?_eq_getElem hi, hiv])
   refine h2.oneCell ?_
   obtain ⟨z, _, hz⟩ := List.mem_map.1 (List.getElem_mem hi')
   rw [← hz]; rfl
  have hrun := abU (P := P) b o S fz us.toList 0 vs w hw hth (by simp; omega) hone
  simp only [Nat.add_zero] at hrun
  refine ⟨_, hrun, ?_⟩
  have e : U k (xs.take o ++ ys.take n ++ xs.drop (o + min ys.length n)) = putRow (U k xs) o (U k (ys.take n)) := by
   unfold putRow
   rw [U_take, U_drop, U_app, U_app, aqN, List.length_take, Nat.min_comm]
  rw [e]
  refine st.turn hb (fun j hj => setRow_other w b j _ hj) (by simp) rfl rfl rfl ⟨_, ⟨fz, setRow_heap w b vs _ S fz hw, ?_⟩, hrel.putRow hus (by rw [aqN, aqN, List.length_take]; omega)⟩
  have e2 : (vs.toList.take o ++ us.toList ++ vs.toList.drop (o + us.toList.length)).toArray.size = vs.size := by simp; omega
  rw [e2]; exact hth
 -- what is read
 have hread : ∃ us : Array Value, RelCells g (U k (ys.take n)) us ∧ ((do let n' := Nat.min (← Builtin.lenOf u) n; Builtin.firstCells (← sizeOf E) n' u) : Sem (Array Value)).run P w = .ok us w ∧ (Builtin.lenOf u).run P w = .ok ys.length w := by
  generalize hm : U k ys = ws at hu2
  cases hu2 with
  | nilSlice =>
   have hl : ys = [] := by simpa [U] using hm
   subst hl
   exact ⟨#[], by simpa [U] using RelCells.nil g, by simp [Builtin.lenOf, Builtin.firstCells, hs], by simp [Builtin.lenOf]⟩
  | voidSlice sz ad =>
   have hl : ys = [] := by simpa [U] using hm
   subst hl
   exact ⟨#[], by simpa [U] using RelCells.nil g, by simp [Builtin.lenOf, Builtin.firstCells, hs, loadCells]; rfl, by simp [Builtin.lenOf]⟩
  | slice sz ws tl b2 off cap us hrow hi hr hlen hcap htl =>
   subst hm
   rw [aqN] at *
   have hcell : ∀ i, (h : i < ys.length) → w.cell? ⟨b2, off + i, none⟩ = some (.int k (ys[i] : Int)) := by
    intro i h
    have h1 := st.imm _ _ _ (hi i (by omega))
    have h2 := hr i 0 (.int k (ys[i] : Int)) (.int k (ys[i] : Int)) (by simp [U, h]) (by simp [AV.cells])
    rw [Nat.mul_one, Nat.add_zero] at h2
    generalize us i = z at h1 h2
    cases h2
    exact h1
   have hload : (loadCells ⟨b2, off, none⟩ (min ys.length n)).run P w = .ok ((ys.take n).map fun a : Nat => Value.int k (a : Int)).toArray w := by
    have := run_loadCells_list (P := P) (w := w) ⟨b2, off, none⟩ ((ys.take n).map fun a : Nat => Value.int k (a : Int)) (fun j v hj => by
      rw [Addr.add_off]
      rw [List.getElem?_map, List.getElem?_take] at hj
      split at hj
      ·obtain ⟨c, hc, rfl⟩ := Option.map_eq_some_iff.1 hj
       obtain ⟨h, rfl⟩ := List.getElem?_eq_some_iff.1 hc
       exact hcell j h
      ·cases hj)
    simpa [Nat.min_comm] using this
   refine ⟨_, aiZ (l := ys.take n) (f := fun a : Nat => AV.int k (a : Int)) (h := fun a : Nat => Value.int k (a : Int)) (fun a => .int _ _), ?_, by simp [Builtin.lenOf]⟩
   rw [List.map_take] at hload
   simp [Builtin.lenOf, Builtin.firstCells, hs]
   exact hload
 obtain ⟨us, hus, hfirst, hlen⟩ := hread
 obtain ⟨w', hrun, st'⟩ := hpiece us hus
 have : (execOp a.eval ⟨dst, .call { callee := .builtin .copy, args := #[x, y], argTypes := #[T, T'] }, ty, pos, af, gd⟩).run P w = .ok (.value (.int .i64 ((min ys.length n : Nat) : Int))) w' := by
  simp only [yX, builtin, Builtin.copy_]
  simp [hlen, hs] at hfirst
  simp [hex, hey, hun, hlen, hs, goInt]
  rw [show ys.length.min n = min ys.length n from rfl] at *
  rw [hfirst]
  simp only [Result.andThen_ok]
  rw [hrun]
  simp
 rw [this]
 exact ⟨g, _, _, .id, .int _ _, st', rfl, rfl⟩
theorem apM {T : TypeId} {x y : Operand} {s : List UInt8} {k : IntKind} {j r : Nat} (tab : List UInt8) (hu : P.underlying T = some .string) (hx : Ev env x (.str s)) (hy : Ev env y (.int k (j : Int))) (hs : s = tab) (h : j < tab.length) (hr : (tab.getD j 0).toNat = r) :
  APure P ⟨dst, .index T x y, ty, pos, af, gd⟩ env (.int .u8 (r : Int)) := by
 subst hs; subst hr
 have := aeN (P := P) (dst := dst) (ty := ty) (pos := pos) (af := af) (gd := gd) hu hx hy (Int.natCast_nonneg _) (by omega)
 simpa using this
theorem AWP.frzU {n : Nat} {Q : Exit → Env → Heap → Prop} {cd : Code} {t b l c : Nat} {T : TypeId} {k : IntKind} {xs : List Nat} (ht : env.get? t = some (.mslice (some ⟨b, 0, none⟩) l c)) (hb : H.objs b = none) (hl : l ≤ xs.length) (hlc : l ≤ c) (hc : c ≤ maxLen)
  (h : AWP P n cd Q ((t, .slice 1 (U k (xs.take l)) .shared) :: env) H) : AWP P n cd Q env (H.set b (.box T (U k xs))) := by
 intro g ac w ka s
 obtain ⟨v, hv, hr⟩ := ka.at_ t _ ht
 obtain ⟨vs, hrel, himm, hle, s'⟩ := s.freeze (Heap.objs_set_same H b (.box T (U k xs)))
 have e : (H.set b (.box T (U k xs))).drop b = H := by
  simp only [Heap.drop, Heap.set]
  cases H with
  | mk objs toks =>
   simp only [Heap.mk.injEq, and_true]
   funext j
   split
   ·rename_i h; subst h; exact hb.symm
   ·rfl
 rw [e] at s'
 have hr' : v = .slice (some ⟨b, 0, none⟩) l c := by cases hr; rfl
 subst hr'
 have hget : ∀ i, (h : i < l) → vs[i]? = some (.int k (xs.getD i 0 : Int)) := fun i h => by
  obtain ⟨v, hv, hr⟩ := hrel.at (U_get (k := k) (xs := xs) (j := i) (by omega))
  cases hr; exact hv
 have hlen : (U k (xs.take l)).length = l := by rw [aqN, List.length_take]; omega
 have hnew : RelV (g.addImm b fun o => vs[o]?) (.slice 1 (U k (xs.take l)) .shared) (.slice (some ⟨b, 0, none⟩) l c) := by
  have := RelV.slice (g := g.addImm b fun o => vs[o]?) 1 (U k (xs.take l)) .shared b 0 c (fun i => vs.getD i undef) (U_row k _)
   (fun i hi => by
     have hi' : i < l := by omega
     rw [Nat.zero_add]
     exact himm i _ (by rw [hget i hi']; simp [hget i hi']))
   (fun i j x c hx' hc => by
     have hi : i < l := by have := (List.getElem?_eq_some_iff.1 hx').1; omega
     have hxi : x = .int k (xs.getD i 0 : Int) := by
       rw [U_get (by simp; omega)] at hx'
       have := Option.some.inj hx'
       rw [← this]
       simp [hi]
     subst hxi
     cases j with
     | zero =>
       simp [AV.cells] at hc
       subst hc
       have : vs.getD (i * 1 + 0) undef = .int k (xs.getD i 0 : Int) := by simp [hget i hi]
       rw [this]; exact .int _ _
     | succ j => simp [AV.cells] at hc)
   (by omega) hc trivial
  rwa [hlen] at this
 have k' : RelAct (g.addImm b fun o => vs[o]?) n ((t, .slice 1 (U k (xs.take l)) .shared) :: env) ac := by
  refine ⟨ka.size, ka.defers, fun t' x hx => ?_⟩
  simp only [Env.get?] at hx
  cases hb : Nat.beq t t' with
  | true =>
   rw [hb] at hx
   have : t = t' := Nat.eq_of_beq_eq_true hb
   subst this
   cases hx
   exact ⟨_, hv, hnew⟩
  | false =>
   rw [hb] at hx
   obtain ⟨u, hu, hru⟩ := ka.at_ t' x hx
   exact ⟨u, hu, hru.mono hle⟩
 exact wp_mono (h _ ac w k' s') fun _ _ _ hq => hq.up hle
end
end
section
open Go Go.RowKit

section
variable {P : Program} {n : Nat} {ops : Array Oper}
def apQ (ops : Array Oper) : List (Nat × Bool) → Array Bool → Bool
 | [], _ => true
 | (i, p) :: r, listed => (if p then (Region.ready .any ops listed).contains i && Region.free .any ops listed i else Region.ready .any ops listed == [i]) && apQ ops r (listed.setIfInBounds i true)
def alG : List (Nat × Bool) → Array Bool → Array Bool
 | [], listed => listed
 | (i, _) :: r, listed => alG r (listed.setIfInBounds i true)
theorem agT {Q : Env → Heap → Prop} {fuel : Nat} : ∀ (r : List (Nat × Bool)) (listed : Array Bool) (env : Env) (H : Heap), apQ ops r listed = true → APlan P n ops (fun _ e H' => XAny P n ops Q fuel (alG r listed) e H') r env H → XAny P n ops Q (r.length + fuel) listed env H
 | [], listed, env, H, _, h => by
  rw [show ([] : List (Nat × Bool)).length + fuel = fuel by simp]
  exact h
 | (i, p) :: r, listed, env, H, hB, h => by
  obtain ⟨o, hi, hd, hcase⟩ := h
  simp only [apQ, Bool.and_eq_true] at hB
  obtain ⟨hB1, hB2⟩ := hB
  rw [show ((i, p) :: r).length + fuel = (r.length + fuel) + 1 by simp; omega]
  rcases hcase with ⟨rfl, x, hx, hk⟩ | ⟨rfl, hw, R, hx, hk⟩
  ·simp only [if_true, Bool.and_eq_true] at hB1
   exact aiR hi hd (r.length + fuel) listed env H (Region.free_spec hi hB1.2) (by simpa using hB1.1) hx (agT r _ _ H hB2 hk)
  ·simp only [Bool.false_eq_true, if_false, beq_iff_eq] at hB1
   refine ⟨fun h0 => (by rw [hB1] at h0; cases h0), fun j hj => ?_⟩
   rw [hB1] at hj
   have hji : j = i := by simpa using hj
   subst hji
   exact ⟨o, hi, hd, .inr ⟨hw, R, hx, fun y H' hR => agT r _ _ H' hB2 (hk y H' hR)⟩⟩
theorem aiU {Q Q' : Exit → Env → Heap → Prop} (hq : ∀ e H, Q .normal e H → Q' .normal e H) : ∀ (r : List (Nat × Bool)) (env : Env) (H : Heap), APlan P n ops Q r env H → APlan P n ops Q' r env H
 | [], _, _, h => hq _ _ h
 | (_, _) :: r, _, _, ⟨o, h1, h2, h3⟩ => ⟨o, h1, h2, h3.imp (fun ⟨a, x, b, c⟩ => ⟨a, x, b, aiU hq r _ _ c⟩) (fun ⟨a, b, R, c, d⟩ => ⟨a, b, R, c, fun x H' hr => aiU hq r _ _ (d x H' hr)⟩)⟩
def XTwo (P : Program) (n : Nat) (ops : Array Oper) (Q : Exit → Env → Heap → Prop) (i : Nat) (r : List (Nat × Bool)) (env : Env) (H : Heap) : Prop :=
 XOp P n ops i (APlan P n ops Q r) env H
theorem XTwo.s {Q : Exit → Env → Heap → Prop} {i : Nat} {r : List (Nat × Bool)} {env : Env} {H : Heap} {op : Op} {ty : TypeId} {pos : String} {af : Array Edge} {d : Tmp} {R : AV → Heap → Prop} (hi : ops[i]? = some ⟨some d, op, ty, pos, af, none⟩) (hd : Nat.blt d n = true) (h : AStep P ⟨some d, op, ty, pos, af, none⟩ (Env.only (Oper.looksAt ops ⟨some d, op, ty, pos, af, none⟩) env) H R)
  (k : ∀ x H', R x H' → APlan P n ops Q r ((d, x) :: env) H') : XTwo P n ops Q i r env H :=
 ⟨_, hi, hd, .inr ⟨.free rfl, R, h, k⟩⟩
theorem AWP.draw2 {Q : Exit → Env → Heap → Prop} {env : Env} {H : Heap} {id : Nat} {l : List Oper} (pre : List (Nat × Bool)) (i j : Nat) (r1 r2 : List (Nat × Bool)) (hm : P.follows .mixedOrders = true)
  (hB : ((pre.length + (r1.length + 1) == l.length) && (r1.length == r2.length) && apQ l.toArray pre (Array.replicate l.length false) && (Region.ready .any l.toArray (alG pre (Array.replicate l.length false)) == [i, j]) &&
    avE l.toArray r1 ((alG pre (Array.replicate l.length false)).setIfInBounds i true) && avE l.toArray r2 ((alG pre (Array.replicate l.length false)).setIfInBounds j true)) = true)
  (h : APlan P n l.toArray (fun _ e H' => XTwo P n l.toArray Q i r1 e H' ∧ XTwo P n l.toArray Q j r2 e H') pre env H) : AWP P n (.region id l.toArray true) Q env H := by
 intro g a w hr hs
 simp only [Bool.and_eq_true, beq_iff_eq] at hB
 obtain ⟨⟨⟨⟨⟨hlen, hl2⟩, hp⟩, hrd⟩, hb1⟩, hb2⟩ := hB
 refine wp_region_any hm ?_
 have hC : XAny P n l.toArray (Q .normal) (pre.length + (r1.length + 1)) (Array.replicate l.length false) env H := by
  refine agT pre _ env H hp ?_
  refine aiU (fun e H' hh => ?_) pre env H h
  obtain ⟨h1, h2⟩ := hh
  refine ⟨fun h0 => (by rw [hrd] at h0; cases h0), fun k hk => ?_⟩
  rw [hrd] at hk
  rcases List.mem_cons.1 hk with rfl | hk
  ·exact h1.mono fun e2 H2 hq => acI r1 _ e2 H2 hb1 hq
  ·have : k = j := by simpa using hk
   subst this
   rw [hl2]
   exact h2.mono fun e2 H2 hq => acI r2 _ e2 H2 hb2 hq
 rw [hlen] at hC
 rw [show l.toArray.size = l.length by simp]
 exact abO (g0 := g) (fun g' a' w' e H' hle hr' hs' hq => ⟨g', e, H', hle, hr', hs', hq⟩) _ _ g a _ env H (G.le.refl g) hr hs.drew hC
theorem apF {P : Program} {env : Env} {dst : Option Tmp} {ty : TypeId} {pos : String} {af : Array Edge} {gd : Option (Nat × Bool)} {T E : TypeId} {x i : Operand} {l c b o : Nat} {k : IntKind} {m : Int} (j : Nat) (hu : P.underlying T = some (.slice E)) (hs : ∀ w, (sizeOf E).run P w = .ok 1 w)
  (hx : Ev env x (.mslice (some ⟨b, o, none⟩) l c)) (hi : Ev env i (.int k m)) (hj : m = (j : Int)) (h : j ≤ c) : APure P ⟨dst, .slice T x none (some i) none, ty, pos, af, gd⟩ env (.mslice (some ⟨b, o, none⟩) j c) := by
 subst hj
 have := agN (P := P) (dst := dst) (ty := ty) (pos := pos) (af := af) (gd := gd) (l := none) (h := some ((j : Int).toNat)) hu hs hx .no (.yes _ _ _ hi (Int.natCast_nonneg _)) (by simp) (by simpa using h)
 simp only [Option.getD_none, Option.getD_some, Int.toNat_natCast, Nat.zero_mul, Nat.sub_zero] at this
 have e : (if c = 0 then some (⟨b, o, none⟩ : Addr) else (some (⟨b, o, none⟩ : Addr)).map (·.add 0)) = some ⟨b, o, none⟩ := by
  split
  ·rfl
  ·simp [Addr.add_off]
 rw [e] at this
 exact this
theorem awF {cd : Code} {Q : Exit → Env → Heap → Prop} {env : Env} {H : Heap} (b : Bool) (ht : b = true → AWP P n cd Q env H) (hf : b = false → AWP P n cd Q env H) : AWP P n cd Q env H := by
 cases b
 ·exact hf rfl
 ·exact ht rfl
theorem Heap.set_comm {H : Heap} {b c : Nat} (h : b ≠ c) (x y : AObj) : (H.set b x).set c y = (H.set c y).set b x := by
 cases H with
 | mk objs toks =>
  simp only [Heap.set]
  congr 1
  funext k
  by_cases h1 : k = c
  ·subst h1; simp [Ne.symm h]
  ·by_cases h2 : k = b
   ·subst h2; simp [h]
   ·simp [h1, h2]
theorem Heap.set_swap {H : Heap} {b c : Nat} (h : b ≠ c) (x y z : AObj) : ((H.set b x).set c y).set b z = (H.set c y).set b z := by
 rw [Heap.set_comm h, Heap.set_set]
theorem Heap.fresh_ne {H : Heap} {b c : Nat} {x : AObj} (h : (H.set b x).objs c = none) : b ≠ c := by
 intro e; subst e; rw [Heap.objs_set_same] at h; cases h
end
end
section
open Go Go.RowKit

section
variable {P : Program} {env : Env} {H : Heap} {dst : Option Tmp} {ty : TypeId} {pos : String} {af : Array Edge} {gd : Option (Nat × Bool)}
theorem arV {S D : TypeId} {x : Operand} {k : IntKind} {n : Nat} {u : TypeDesc} (hs : P.underlying S = some u) (hd : P.underlying D = some .string) (hx : Ev env x (.int k (n : Int))) (h : n < 128) : APure P ⟨dst, .convert S D x, ty, pos, af, gd⟩ env (.str [UInt8.ofNat n]) := by
 intro g m a ka
 obtain ⟨v, he, hv⟩ := ev1 hx ka
 cases hv
 refine ⟨_, .str _ (by simp [maxLen]), fun w _ => ?_⟩
 have hrun := run_convert_int_string (P := P) w S D k (n : Int) (by rw [hs]; rfl) hd
 have e : Utf8.encode ((n : Nat) : Int) = ⟨#[UInt8.ofNat n]⟩ := by
  unfold Utf8.encode
  have hv : Utf8.valid ((n : Nat) : Int) = true := by
   unfold Utf8.valid
   simp; omega
  rw [hv]
  simp [h]
 rw [e] at hrun
 simp [execOp, he, hrun]
end
end
section
open Go Go.RowKit

section
variable {P : Program} {env : Env} {H : Heap} {dst : Option Tmp} {ty : TypeId} {pos : String} {af : Array Edge} {gd : Option (Nat × Bool)}
theorem qU {T E : TypeId} {N sz : Nat} {ops : List (Nat × Operand)} {qs : List (Nat × AV)} {z : Value} {zs cs : List AV} (hu : P.underlying T = some (.array N E)) (hE : ∀ w, (sizeOf E).run P w = .ok sz w) (hz : ∀ w, (zeroValue T).run P w = .ok z w)
  (hzr : ∀ g, RelCells g zs z.cells) (hq : Parts env ops qs) (hf : agS (fun i => some (i * sz, sz)) zs qs = some cs) : APure P ⟨dst, .build T ops.toArray, ty, pos, af, gd⟩ env (.agg cs) := by
 intro g n a ka
 obtain ⟨h1, h2⟩ := hq.rel ka
 obtain ⟨us, h3, h4⟩ := (hzr g).fill h1 h2 hf
 refine ⟨.agg us, .agg cs us h4.1 h4.2, fun w _ => ?_⟩
 simp [execOp, Instr.build, hz, underlying, hu, hE, h3]
theorem auZ {T E : TypeId} {x i : Operand} {N : Nat} {cs : List AV} {k : IntKind} {m : Int} {y : AV} (hu : P.underlying T = some (.array N E)) (ha : ∀ w, (isAgg E).run P w = .ok false w) (hs : ∀ w, (sizeOf E).run P w = .ok 1 w)
  (hx : Ev env x (.agg cs)) (hi : Ev env i (.int k m)) (h0 : 0 ≤ m) (hm : m < N) (hy : cs[m.toNat]? = some y) : APure P ⟨dst, .index T x i, ty, pos, af, gd⟩ env y := by
 intro g n a ka
 obtain ⟨v, hev, hv⟩ := ev1 hx ka
 obtain ⟨u, hfu, hu'⟩ := ev1 hi ka
 cases hu'
 cases hv with
 | agg cs vs hn hr =>
  obtain ⟨z, hz, hrz⟩ := RelCells.at ⟨hn, hr⟩ hy
  refine ⟨z, hrz, fun w _ => ?_⟩
  simp [execOp, hev, hfu, Instr.index, asIntOf, underlying, hu, hs, h0, hm, part, ha, hz]
end
theorem Sat.cellAt {g : G} {H : Heap} {w : World} (s : Sat g H w) {b o : Nat} {T : TypeId} {cs : List AV} {c : AV} (hb : H.objs b = some (.box T cs)) (hc : cs[o]? = some c) :
  (∃ v, w.cell? ⟨b, o, none⟩ = some v ∧ RelV g c v) ∧ w.frozen? ⟨b, o, none⟩ = false := by
 refine ⟨s.box_cell hb hc, ?_⟩
 obtain ⟨vs, hv, hr⟩ := s.box b T cs hb
 exact hv.thaw (by rw [← hr.1]; exact (List.getElem?_eq_some_iff.1 hc).1)
theorem Sat.cellInt {g : G} {H : Heap} {w : World} (s : Sat g H w) {b o : Nat} {T : TypeId} {cs : List AV} {k : IntKind} {m : Int} (hb : H.objs b = some (.box T cs)) (hc : cs[o]? = some (.int k m)) :
  w.cell? ⟨b, o, none⟩ = some (.int k m) ∧ w.frozen? ⟨b, o, none⟩ = false := by
 obtain ⟨⟨v, h1, h2⟩, h3⟩ := s.cellAt hb hc
 cases h2
 exact ⟨h1, h3⟩
theorem Sat.setCell {g : G} {H : Heap} {w : World} (s : Sat g H w) {b o : Nat} {T : TypeId} {cs : List AV} {y : AV} {v : Value} (hb : H.objs b = some (.box T cs)) (ho : o < cs.length) (hr : RelV g y v) :
  Sat g (H.set b (.box T (cs.set o y))) (w.setCell ⟨b, o, none⟩ v) := by
 obtain ⟨vs, ⟨fz, hw, hth⟩, hrel⟩ := s.box b T cs hb
 rw [setCell_eq_setRow w b o vs T fz v hw]
 refine s.turn hb (fun j hj => setRow_other w b j _ hj) (by simp) rfl rfl rfl ⟨_, ⟨fz, setRow_heap w b vs _ T fz hw, ?_⟩, hrel.set o hr⟩
 rw [Array.size_setIfInBounds]; exact hth
end
section
open Go Go.RowKit

inductive PT where
 | done : PT
 | op (i : Nat) (p : Bool) (k : PT) : PT
 | two (i : Nat) (a : PT) (j : Nat) (b : PT) : PT
def PT.size : PT → Nat
 | .done => 0
 | .op _ _ k => k.size + 1
 | .two _ a _ _ => a.size + 1
section
def arY (ops : Array Oper) : PT → Array Bool → Bool
 | .done, listed => (Region.ready .any ops listed).isEmpty
 | .op i p k, listed => (if p then (Region.ready .any ops listed).contains i && Region.free .any ops listed i else Region.ready .any ops listed == [i]) && arY ops k (listed.setIfInBounds i true)
 | .two i a j b, listed => (Region.ready .any ops listed == [i, j]) && (a.size == b.size) && arY ops a (listed.setIfInBounds i true) && arY ops b (listed.setIfInBounds j true)
def ATree (P : Program) (n : Nat) (ops : Array Oper) (Q : Exit → Env → Heap → Prop) : PT → Env → Heap → Prop
 | .done, env, H => Q .normal env H
 | .op i p k, env, H => ∃ o, ops[i]? = some o ∧ fits n o.dst = true ∧
   ((p = true ∧ ∃ x, Steady P ops o env x ∧ ATree P n ops Q k (env.put o.dst x) H) ∨
    (p = false ∧ Wanted ops (Env.only (o.looksAt ops) env) o true ∧ ∃ R, AStep P o (Env.only (o.looksAt ops) env) H R ∧ ∀ x H', R x H' → ATree P n ops Q k (env.put o.dst x) H'))
 | .two i a j b, env, H => XOp P n ops i (ATree P n ops Q a) env H ∧ XOp P n ops j (ATree P n ops Q b) env H
variable {P : Program} {n : Nat} {ops : Array Oper}
theorem acH {Q : Exit → Env → Heap → Prop} : ∀ (t : PT) (listed : Array Bool) (env : Env) (H : Heap), arY ops t listed = true → ATree P n ops Q t env H → XAny P n ops (Q .normal) t.size listed env H
 | .done, listed, env, H, hB, h => ⟨by simpa [arY] using hB, env, fun _ => rfl, h⟩
 | .op i p k, listed, env, H, hB, h => by
  obtain ⟨o, hi, hd, hcase⟩ := h
  simp only [arY, Bool.and_eq_true] at hB
  obtain ⟨hB1, hB2⟩ := hB
  rcases hcase with ⟨rfl, x, hx, hk⟩ | ⟨rfl, hw, R, hx, hk⟩
  ·simp only [if_true, Bool.and_eq_true] at hB1
   exact aiR hi hd k.size listed env H (Region.free_spec hi hB1.2) (by simpa using hB1.1) hx (acH k _ _ H hB2 hk)
  ·simp only [Bool.false_eq_true, if_false, beq_iff_eq] at hB1
   refine ⟨fun h0 => (by rw [hB1] at h0; cases h0), fun j hj => ?_⟩
   rw [hB1] at hj
   have hji : j = i := by simpa using hj
   subst hji
   exact ⟨o, hi, hd, .inr ⟨hw, R, hx, fun y H' hR => acH k _ _ H' hB2 (hk y H' hR)⟩⟩
 | .two i a j b, listed, env, H, hB, h => by
  simp only [arY, Bool.and_eq_true, beq_iff_eq] at hB
  obtain ⟨⟨⟨hrd, hl⟩, hb1⟩, hb2⟩ := hB
  obtain ⟨h1, h2⟩ := h
  refine ⟨fun h0 => (by rw [hrd] at h0; cases h0), fun k hk => ?_⟩
  rw [hrd] at hk
  rcases List.mem_cons.1 hk with rfl | hk
  ·exact h1.mono fun e2 H2 hq => acH a _ e2 H2 hb1 hq
  ·have : k = j := by simpa using hk
   subst this
   rw [hl]
   exact h2.mono fun e2 H2 hq => acH b _ e2 H2 hb2 hq
theorem AWP.drawT {Q : Exit → Env → Heap → Prop} {env : Env} {H : Heap} {id : Nat} {l : List Oper} (t : PT) (hm : P.follows .mixedOrders = true)
  (hB : ((t.size == l.length) && arY l.toArray t (Array.replicate l.length false)) = true) (h : ATree P n l.toArray Q t env H) : AWP P n (.region id l.toArray true) Q env H := by
 intro g a w hr hs
 simp only [Bool.and_eq_true, beq_iff_eq] at hB
 obtain ⟨hlen, hB⟩ := hB
 refine wp_region_any hm ?_
 have hC := acH t _ env H hB h
 rw [hlen] at hC
 rw [show l.toArray.size = l.length by simp]
 exact abO (g0 := g) (fun g' a' w' e H' hle hr' hs' hq => ⟨g', e, H', hle, hr', hs', hq⟩) _ _ g a _ env H (G.le.refl g) hr hs.drew hC
variable {Q : Exit → Env → Heap → Prop} {env : Env} {H : Heap}
theorem ATree.nil (h : Q .normal env H) : ATree P n ops Q .done env H := h
theorem ATree.free {i : Nat} {o : Oper} {r : PT} {x : AV} (hi : ops[i]? = some o) (hw : Wanted ops (Env.only (o.looksAt ops) env) o true) (hd : fits n o.dst = true) (h : atS P o (Env.only (o.looksAt ops) env) x) (hk : ATree P n ops Q r (env.put o.dst x) H) :
  ATree P n ops Q (.op i true r) env H := ⟨o, hi, hd, .inl ⟨rfl, x, .inl ⟨hw, h⟩, hk⟩⟩
theorem ATree.unwanted {i : Nat} {o : Oper} {r : PT} (hi : ops[i]? = some o) (hw : Wanted ops (Env.only (o.looksAt ops) env) o false) (hd : fits n o.dst = true) (hk : ATree P n ops Q r (env.put o.dst (.raw undef)) H) :
  ATree P n ops Q (.op i true r) env H := ⟨o, hi, hd, .inl ⟨rfl, _, .inr ⟨hw, rfl⟩, hk⟩⟩
theorem ATree.step {i : Nat} {o : Oper} {r : PT} {R : AV → Heap → Prop} (hi : ops[i]? = some o) (hw : Wanted ops (Env.only (o.looksAt ops) env) o true) (hd : fits n o.dst = true) (h : AStep P o (Env.only (o.looksAt ops) env) H R)
  (hk : ∀ x H', R x H' → ATree P n ops Q r (env.put o.dst x) H') : ATree P n ops Q (.op i false r) env H := ⟨o, hi, hd, .inr ⟨rfl, hw, R, h, hk⟩⟩
theorem XTree.s {i : Nat} {r : PT} {op : Op} {ty : TypeId} {pos : String} {af : Array Edge} {d : Tmp} {R : AV → Heap → Prop} (hi : ops[i]? = some ⟨some d, op, ty, pos, af, none⟩) (hd : Nat.blt d n = true) (h : AStep P ⟨some d, op, ty, pos, af, none⟩ (Env.only (Oper.looksAt ops ⟨some d, op, ty, pos, af, none⟩) env) H R)
  (k : ∀ x H', R x H' → ATree P n ops Q r ((d, x) :: env) H') : XOp P n ops i (ATree P n ops Q r) env H :=
 ⟨_, hi, hd, .inr ⟨.free rfl, R, h, k⟩⟩
variable {op : Op} {ty : TypeId} {pos : String} {af : Array Edge} {x : AV} {i : Nat} {r : PT}
theorem ATree.p {d : Tmp} (hi : ops[i]? = some ⟨some d, op, ty, pos, af, none⟩) (hd : Nat.blt d n = true) (h : APure P ⟨some d, op, ty, pos, af, none⟩ (Env.only (Oper.looksAt ops ⟨some d, op, ty, pos, af, none⟩) env) x) (k : ATree P n ops Q r ((d, x) :: env) H) : ATree P n ops Q (.op i true r) env H :=
 ATree.free hi (.free rfl) hd h.free k
theorem ATree.f {d : Tmp} (hi : ops[i]? = some ⟨some d, op, ty, pos, af, none⟩) (hd : Nat.blt d n = true) (h : atS P ⟨some d, op, ty, pos, af, none⟩ (Env.only (Oper.looksAt ops ⟨some d, op, ty, pos, af, none⟩) env) x) (k : ATree P n ops Q r ((d, x) :: env) H) : ATree P n ops Q (.op i true r) env H :=
 ATree.free hi (.free rfl) hd h k
theorem ATree.s {d : Tmp} {R : AV → Heap → Prop} (hi : ops[i]? = some ⟨some d, op, ty, pos, af, none⟩) (hd : Nat.blt d n = true) (h : AStep P ⟨some d, op, ty, pos, af, none⟩ (Env.only (Oper.looksAt ops ⟨some d, op, ty, pos, af, none⟩) env) H R) (k : ∀ x H', R x H' → ATree P n ops Q r ((d, x) :: env) H') :
  ATree P n ops Q (.op i false r) env H := ATree.step hi (.free rfl) hd h k
theorem ATree.s0 {R : AV → Heap → Prop} (hi : ops[i]? = some ⟨none, op, ty, pos, af, none⟩) (h : AStep P ⟨none, op, ty, pos, af, none⟩ (Env.only (Oper.looksAt ops ⟨none, op, ty, pos, af, none⟩) env) H R) (k : ∀ x H', R x H' → ATree P n ops Q r env H') :
  ATree P n ops Q (.op i false r) env H := ATree.step hi (.free rfl) rfl h k
theorem ATree.gp {d : Tmp} {e : Tmp} {j : Nat} {want b : Bool} (hi : ops[i]? = some ⟨some d, op, ty, pos, af, some (j, want)⟩) (hd : Nat.blt d n = true) (hg : (ops[j]?).bind (·.dst) = some e) (hb : (Env.only (Oper.looksAt ops ⟨some d, op, ty, pos, af, some (j, want)⟩) env).get? e = some (.bool b)) (hbw : b = want)
  (h : APure P ⟨some d, op, ty, pos, af, some (j, want)⟩ (Env.only (Oper.looksAt ops ⟨some d, op, ty, pos, af, some (j, want)⟩) env) x) (k : ATree P n ops Q r ((d, x) :: env) H) : ATree P n ops Q (.op i true r) env H :=
 ATree.free hi (.yes rfl hg hb hbw) hd h.free k
theorem ATree.gf {d : Tmp} {e : Tmp} {j : Nat} {want b : Bool} (hi : ops[i]? = some ⟨some d, op, ty, pos, af, some (j, want)⟩) (hd : Nat.blt d n = true) (hg : (ops[j]?).bind (·.dst) = some e) (hb : (Env.only (Oper.looksAt ops ⟨some d, op, ty, pos, af, some (j, want)⟩) env).get? e = some (.bool b)) (hbw : b = want)
  (h : atS P ⟨some d, op, ty, pos, af, some (j, want)⟩ (Env.only (Oper.looksAt ops ⟨some d, op, ty, pos, af, some (j, want)⟩) env) x) (k : ATree P n ops Q r ((d, x) :: env) H) : ATree P n ops Q (.op i true r) env H :=
 ATree.free hi (.yes rfl hg hb hbw) hd h k
theorem ATree.gs {d : Tmp} {e : Tmp} {j : Nat} {want b : Bool} {R : AV → Heap → Prop} (hi : ops[i]? = some ⟨some d, op, ty, pos, af, some (j, want)⟩) (hd : Nat.blt d n = true) (hg : (ops[j]?).bind (·.dst) = some e) (hb : (Env.only (Oper.looksAt ops ⟨some d, op, ty, pos, af, some (j, want)⟩) env).get? e = some (.bool b)) (hbw : b = want)
  (h : AStep P ⟨some d, op, ty, pos, af, some (j, want)⟩ (Env.only (Oper.looksAt ops ⟨some d, op, ty, pos, af, some (j, want)⟩) env) H R) (k : ∀ x H', R x H' → ATree P n ops Q r ((d, x) :: env) H') : ATree P n ops Q (.op i false r) env H :=
 ATree.step hi (.yes rfl hg hb hbw) hd h k
theorem ATree.gn {d : Tmp} {e : Tmp} {j : Nat} {want b : Bool} (hi : ops[i]? = some ⟨some d, op, ty, pos, af, some (j, want)⟩) (hd : Nat.blt d n = true) (hg : (ops[j]?).bind (·.dst) = some e) (hb : (Env.only (Oper.looksAt ops ⟨some d, op, ty, pos, af, some (j, want)⟩) env).get? e = some (.bool b)) (hbw : b = !want)
  (k : ATree P n ops Q r ((d, .raw undef) :: env) H) : ATree P n ops Q (.op i true r) env H :=
 ATree.unwanted hi (.no rfl hg hb hbw) hd k

theorem ATree.gdead {d : Tmp} {e : Tmp} {j : Nat} {want : Bool} (hi : ops[i]? = some ⟨some d, op, ty, pos, af, some (j, want)⟩) (hd : Nat.blt d n = true) (hg : (ops[j]?).bind (·.dst) = some e) (hb : (Env.only (Oper.looksAt ops ⟨some d, op, ty, pos, af, some (j, want)⟩) env).get? e = some (.raw undef))
  (k : ATree P n ops Q r ((d, .raw undef) :: env) H) : ATree P n ops Q (.op i true r) env H :=
 ATree.unwanted hi (.dead j want e rfl hg hb) hd k

end
end
end Go.Proofs.YtmmgbnolccpjoaaGreatDoor
