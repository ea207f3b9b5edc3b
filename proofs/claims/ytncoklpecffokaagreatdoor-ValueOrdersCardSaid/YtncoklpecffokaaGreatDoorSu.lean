/-
  The frame, part 19: bytes of texts, texts of bytes, new rows of numbers, copies, ranging over a text.
-/
import Derived.Test.YtncoklpecffokaaGreatDoorSq
import Derived.Test.YtncoklpecffokaaGreatDoorSm
import Derived.Laws.IdiomStrings
namespace Go.Proofs.YtncoklpecffokaaGreatDoor
open Go Go.RowKit

/-- A byte as a cell. -/
def bv (b : UInt8) : AV := .int .u8 ((b.toNat : Nat) : Int)
/-- A new row that may be written, whatever its mark. -/
theorem Sat.new_row_at {g : G} {H : Heap} {w : World} (h : Sat g H w) (T : TypeId) {cs : List AV} {vs : Array Value} {fz : Nat × Nat} (ht : Thaw vs.size fz) (hr : RelCells g cs vs) :
    Sat g (H.set w.heap.size (.box T cs)) (w.alloc (.cells vs T fz)) :=
  (h.alloc (.cells vs T fz)).claim (by have := h.below.size; exact this) h.imm_new h.tok_new (.box T cs) ⟨vs, ⟨fz, heap_alloc_new _ _, ht⟩, hr⟩
theorem relcells_map {g : G} {α : Type} {l : List α} {f : α → AV} {h : α → Value} (hr : ∀ a, RelV g (f a) (h a)) : RelCells g (l.map f) (l.map h).toArray := by
  refine ⟨by simp, fun i c v hc hv => ?_⟩
  rw [List.getElem?_map] at hc
  simp only [List.getElem?_toArray, List.getElem?_map] at hv
  cases hi : l[i]? with
  | none => rw [hi] at hc; cases hc
  | some a => rw [hi] at hc hv; cases hc; cases hv; exact hr a
theorem relcells_rep {g : G} {n : Nat} {c : AV} {v : Value} (hr : RelV g c v) : RelCells g (List.replicate n c) (Array.replicate n v) := by
  refine ⟨by simp, fun i x u hx hu => ?_⟩
  simp only [List.getElem?_replicate] at hx
  simp only [Array.getElem?_replicate] at hu
  split at hx
  · rename_i hi; rw [if_pos hi] at hu; cases hx; cases hu; exact hr
  · cases hx

section
variable {P : Program} {env : Env} {H : Heap} {dst : Option Tmp} {ty : TypeId} {pos : String} {af : Array Edge} {gd : Option (Nat × Bool)}

theorem step_bytes {S D E : TypeId} {x : Operand} {s : List UInt8} (u1 : P.underlying S = some .string) (u2 : P.underlying D = some (.slice E)) (u3 : P.underlying E = some (.int .u8)) (hx : Ev env x (.str s)) (hl : s.length ≤ 16777216) :
    AStep P ⟨dst, .convert S D x, ty, pos, af, gd⟩ env H (fun y H' => ∃ b c, y = .mslice (some ⟨b, 0, none⟩) s.length c ∧ s.length ≤ c ∧ c ≤ maxLen ∧ H.objs b = none ∧ H' = H.set b (.box E (s.map bv ++ List.replicate (c - s.length) (.int .u8 0)))) := by
  intro g n a w ka st
  obtain ⟨v, he, hv⟩ := ev1 hx ka
  cases hv with
  | str s hs =>
    have hrun := run_bytes_of_string (P := P) w S D E ⟨s.toArray⟩ u1 u2 u3
    rw [bmk] at hrun
    let nc := grownCap w s.length 0 E
    have hnc : s.length ≤ nc ∧ nc ≤ maxLen := by
      show s.length ≤ s.length + _ % (2 ^ 63 - s.length) ∧ _
      refine ⟨Nat.le_add_right _ _, ?_⟩
      show s.length + w.tape w.drawn (.appendCap s.length 0 E) % (2 ^ 63 - s.length) ≤ maxLen
      have : w.tape w.drawn (.appendCap s.length 0 E) % (2 ^ 63 - s.length) < 2 ^ 63 - s.length := Nat.mod_lt _ (by omega)
      unfold maxLen
      omega
    have : (execOp a.eval ⟨dst, .convert S D x, ty, pos, af, gd⟩).run P w = .ok (.value (.slice (some ⟨w.heap.size, 0, none⟩) s.length nc)) (w.drew.alloc (.cells (bytesRow ⟨s.toArray⟩ nc) E ((bytesRow ⟨s.toArray⟩ nc).size, (bytesRow ⟨s.toArray⟩ nc).size + 1))) := by
      simp [execOp, he, hrun]
      exact ⟨rfl, rfl⟩
    rw [this]
    have hrel : RelCells g (s.map bv ++ List.replicate (nc - s.length) (.int .u8 0)) (bytesRow ⟨s.toArray⟩ nc) := by
      unfold bytesRow
      refine RelCells.append ?_ (relcells_rep (.int _ _))
      have := relcells_map (g := g) (l := s) (f := bv) (h := fun b => Value.int .u8 b.toNat) (fun b => .int _ _)
      simpa using this
    exact ⟨g, _, _, .id, .mslice _ _ _, st.drew.new_row_at E (.inr (Nat.le_refl _)) hrel, _, _, rfl, hnc.1, hnc.2, st.new_none, rfl⟩
theorem cells_bytes {g : G} {l : List UInt8} {us : Array Value} (h : RelCells g (l.map bv) us) : us = (l.map fun b => Value.int .u8 (b.toNat : Int)).toArray := by
  apply Array.ext_getElem?
  intro i
  by_cases hi : i < l.length
  · have h1 : (l.map bv)[i]? = some (bv l[i]) := by simp [hi]
    obtain ⟨v, hv, hr⟩ := h.at h1
    cases hr
    rw [hv]; simp [hi]
  · have := h.1
    rw [Array.getElem?_eq_none (by simp at this; omega), Array.getElem?_eq_none (by simp; omega)]
theorem run_text {S D E : TypeId} {w : World} {a : Addr} {cap : Nat} {l : List UInt8} (u1 : P.underlying S = some (.slice E)) (u2 : P.underlying D = some .string) (u3 : P.underlying E = some (.int .u8))
    (h : (loadCells a l.length).run P w = .ok (l.map fun b => Value.int .u8 (b.toNat : Int)).toArray w) : (convert S D (.slice (some a) l.length cap)).run P w = .ok (.string ⟨l.toArray⟩) w := by
  rw [run_convert_bytes_string (P := P) w S D E (some a) l.length cap u1 u3 u2]
  have := run_bytesToString (P := P) w a l.length cap (l.map fun b => (b.toNat : Int)) (by rw [h]; simp [Function.comp_def])
  rw [this, foldl_push_byteCells]
  simp [ByteArray.empty, ByteArray.emptyWithCapacity]
  rfl
/-- A text of a piece of a row that may be written. -/
theorem step_text {S D E T : TypeId} {x : Operand} {b o c n : Nat} {cs : List AV} {l : List UInt8} (u1 : P.underlying S = some (.slice E)) (u2 : P.underlying D = some .string) (u3 : P.underlying E = some (.int .u8))
    (hx : Ev env x (.mslice (some ⟨b, o, none⟩) n c)) (hb : H.objs b = some (.box T cs)) (hn : l.length = n) (hc : (cs.drop o).take n = l.map bv) (hl : n ≤ maxLen) :
    AStep P ⟨dst, .convert S D x, ty, pos, af, gd⟩ env H (fun y H' => y = .str l ∧ H' = H) := by
  subst hn
  intro g n a w ka st
  obtain ⟨v, he, hv⟩ := ev1 hx ka
  cases hv
  have hlen : l = [] ∨ o + l.length ≤ cs.length := by
    have := congrArg List.length hc
    simp only [List.length_take, List.length_drop, List.length_map] at this
    rcases Nat.eq_zero_or_pos l.length with h | h
    · exact .inl (List.length_eq_zero_iff.1 h)
    · exact .inr (by omega)
  have hload : (loadCells ⟨b, o, none⟩ l.length).run P w = .ok (l.map fun b => Value.int .u8 (b.toNat : Int)).toArray w := by
    rcases hlen with rfl | hlen
    · rfl
    · obtain ⟨us, h1, h2⟩ := box_load (P := P) st hb hlen
      rw [hc] at h2
      rw [h1, cells_bytes h2]
  have hr := run_text (cap := c) u1 u2 u3 hload
  have : (execOp a.eval ⟨dst, .convert S D x, ty, pos, af, gd⟩).run P w = .ok (.value (.string ⟨l.toArray⟩)) w := by simp [execOp, he, hr]
  rw [this]
  exact ⟨g, _, H, .id, .str _ hl, st, rfl, rfl⟩
/-- .. of a slice that never turns. -/
theorem step_textI {S D E : TypeId} {x : Operand} {l : List UInt8} {tl : Tail} (u1 : P.underlying S = some (.slice E)) (u2 : P.underlying D = some .string) (u3 : P.underlying E = some (.int .u8))
    (hx : Ev env x (.slice 1 (l.map bv) tl)) : AStep P ⟨dst, .convert S D x, ty, pos, af, gd⟩ env H (fun y H' => y = .str l ∧ H' = H) := by
  intro g n a w ka st
  obtain ⟨v, he, hv⟩ := ev1 hx ka
  generalize hm : l.map bv = xs at hv
  have out : ∀ v, a.eval x = v → l.length ≤ maxLen → (convert S D v).run P w = .ok (.string ⟨l.toArray⟩) w → (execOp a.eval ⟨dst, .convert S D x, ty, pos, af, gd⟩).run P w = .ok (.value (.string ⟨l.toArray⟩)) w := by
    intro v he _ hr; simp [execOp, he, hr]
  cases hv with
  | nilSlice =>
    have hl : l = [] := by simpa using hm
    subst hl
    have hr : (convert S D (.slice none 0 0)).run P w = .ok (.string ⟨[].toArray⟩) w := by
      rw [run_convert_bytes_string (P := P) w S D E none 0 0 u1 u3 u2]; rfl
    rw [out _ he (Nat.zero_le _) hr]
    exact ⟨g, _, H, .id, .str _ (Nat.zero_le _), st, rfl, rfl⟩
  | voidSlice sz ad =>
    have hl : l = [] := by simpa using hm
    subst hl
    have hr := run_text (P := P) (w := w) (l := []) (cap := 0) (a := ad) u1 u2 u3 rfl
    rw [out _ he (Nat.zero_le _) hr]
    exact ⟨g, _, H, .id, .str _ (Nat.zero_le _), st, rfl, rfl⟩
  | slice sz xs tl b off cap vs hsz hi hr hlen hcap htl =>
    subst hm
    have hll : l.length ≤ maxLen := by simp at hlen; omega
    have hcell : ∀ i, (h : i < l.length) → w.cell? ⟨b, off + i, none⟩ = some (.int .u8 (l[i].toNat : Int)) := by
      intro i h
      have h1 := st.imm _ _ _ (hi i (by simpa using h))
      have h2 := hr i 0 (bv l[i]) (bv l[i]) (by simp [h]) (by simp [bv, AV.cells])
      rw [Nat.mul_one, Nat.add_zero] at h2
      generalize vs i = u at h1 h2
      cases h2
      exact h1
    have hload : (loadCells ⟨b, off, none⟩ l.length).run P w = .ok (l.map fun b => Value.int .u8 (b.toNat : Int)).toArray w := by
      have := run_loadCells_list (P := P) (w := w) ⟨b, off, none⟩ (l.map fun b => Value.int .u8 (b.toNat : Int)) (fun j v hj => by
        rw [Addr.add_off]
        rw [List.getElem?_map] at hj
        obtain ⟨c, hc, rfl⟩ := Option.map_eq_some_iff.1 hj
        obtain ⟨h, rfl⟩ := List.getElem?_eq_some_iff.1 hc
        exact hcell j h)
      simpa using this
    have hr := run_text (cap := cap) u1 u2 u3 hload
    rw [out _ he hll (by simpa using hr)]
    exact ⟨g, _, H, .id, .str _ hll, st, rfl, rfl⟩

/-! ### new rows of numbers -/
theorem step_makeSlice {T E : TypeId} {l c : Operand} {k : IntKind} {m : Nat} {ti : TypeInfo} (hu : P.underlying T = some (.slice E)) (hti : ∀ w, (typeInfo E).run P w = .ok ti w) (hs : ∀ w, (sizeOf E).run P w = .ok 1 w) (hz : ∀ w, (zeroValue E).run P w = .ok (.int k 0) w)
    (hl : Ev env l (.int .i64 (m : Int))) (hc : Ev env c (.int .i64 (m : Int))) (hb : ti.bytes ≤ 64) (hm : m ≤ 1000000000) :
    AStep P ⟨dst, .makeSlice T l c, ty, pos, af, gd⟩ env H (fun y H' => ∃ b, y = .mslice (some ⟨b, 0, none⟩) m m ∧ H.objs b = none ∧ H' = H.set b (.box E (List.replicate m (.int k 0)))) := by
  intro g n a w ka st
  obtain ⟨v1, he1, hv1⟩ := ev1 hl ka
  obtain ⟨v2, he2, hv2⟩ := ev1 hc ka
  cases hv1; cases hv2
  have hun : ∀ w, (underlying T).run P w = .ok (.slice E) w := fun w => run_underlying hu w
  have w0 : IntKind.i64.wrap ((m : Nat) : Int) = (m : Int) := by simp [IntKind.wrap, IntKind.bits, IntKind.signed]; omega
  have hbytes : ti.bytes * m ≤ 64 * 1000000000 := Nat.mul_le_mul hb hm
  have hrun : (execOp a.eval ⟨dst, .makeSlice T l c, ty, pos, af, gd⟩).run P w = .ok (.value (.slice (some ⟨w.heap.size, 0, none⟩) m m)) (w.alloc (.cells (Array.replicate m (.int k 0)) E)) := by
    simp only [execOp, Instr.makeSlice, he1, he2]
    simp only [Sem.run_bind, hun, Result.andThen_ok, asInt, asIntOf, Sem.run_pure, hti, w0]
    have n1 : ¬ ((m : Int) < 0) := by omega
    have n2 : ¬ ((281474976710656 : Int) < (ti.bytes : Int) * (m : Int)) := by
      have : (ti.bytes : Int) * (m : Int) = ((ti.bytes * m : Nat) : Int) := by simp
      rw [this]; omega
    have n5 : ¬ (m * ti.bytes > roomBytes) := by unfold roomBytes; rw [Nat.mul_comm]; omega
    have n6 : ¬ ((m : Int) < (m : Int)) := by omega
    simp [n1, n2, askRoom, n5, hs]
    by_cases e0 : m = 0
    · subst e0
      simp [newRow]
      rw [show Array.range 0 = #[] from rfl]; simp
    · simp [hz, newRow, e0]
      have : (Array.map (fun x => (Value.int k 0).cells[x % (Value.int k 0).cells.size]!) (Array.range m)) = Array.replicate m (Value.int k 0) := by
        apply Array.ext
        · simp
        · intro i h1 h2
          simp [Value.cells, Nat.mod_one]
      have hzc : (Value.int k 0).cells.size = 1 := rfl
      rw [hzc] at this
      simp only [hzc, this]
  rw [hrun]
  exact ⟨g, _, _, .id, .mslice _ _ _, st.new_box E (relcells_rep (.int _ _)), _, rfl, st.new_none, rfl⟩

/-! ### ranging over a text -/
theorem step_range {T : TypeId} {x : Operand} {s : List UInt8} (hu : P.underlying T = some .string) (hx : Ev env x (.str s)) :
    AStep P ⟨dst, .range T x, ty, pos, af, gd⟩ env H (fun y H' => ∃ b, y = .ptr (some ⟨b, 0, none⟩) ∧ H.objs b = none ∧ H' = H.set b (.raw (.stringIter ⟨s.toArray⟩ 0))) := by
  intro g n a w ka st
  obtain ⟨v, he, hv⟩ := ev1 hx ka
  cases hv
  have u1 : ∀ w, (underlying T).run P w = .ok .string w := fun w => run_underlying hu w
  have : (execOp a.eval ⟨dst, .range T x, ty, pos, af, gd⟩).run P w = .ok (.value (.pointer (some ⟨w.heap.size, 0, none⟩))) (w.alloc (.stringIter ⟨s.toArray⟩ 0)) := by simp [execOp, he, Instr.range, u1]
  rw [this]
  exact ⟨g, _, _, .id, .ptr _, st.new_raw _, _, rfl, st.new_none, rfl⟩
theorem run_getIter {w : World} {r p : Nat} {s : ByteArray} (h : w.heap[r]? = some (.stringIter s p)) : (getObj r).run P w = .ok (.stringIter s p) w := by simp [getObj, Sem.run, h]
theorem run_setIter {w : World} {r p : Nat} {s : ByteArray} (o : Obj) (h : w.heap[r]? = some (.stringIter s p)) : (setObj r o).run P w = .ok () { w with heap := w.heap.setIfInBounds r o } := by simp [setObj, Sem.run, h]
theorem step_next {x : Operand} {b p : Nat} {s : List UInt8} (hx : Ev env x (.ptr (some ⟨b, 0, none⟩))) (hb : H.objs b = some (.raw (.stringIter ⟨s.toArray⟩ p))) :
    AStep P ⟨dst, .next x true, ty, pos, af, gd⟩ env H (fun y H' => ∃ q, y = .tuple (.bool (decide (p < s.length)) :: q) ∧ (p < s.length → q = [.int .i64 p, .int .i32 (Utf8.decode ⟨s.toArray⟩ p).1] ∧ H' = H.set b (.raw (.stringIter ⟨s.toArray⟩ (p + (Utf8.decode ⟨s.toArray⟩ p).2)))) ∧ (¬ p < s.length → q = [] ∧ H' = H)) := by
  intro g n a w ka st
  obtain ⟨v, he, hv⟩ := ev1 hx ka
  cases hv
  have hw := st.raw b _ hb
  have hlt : b < w.heap.size := (Array.getElem?_eq_some_iff.1 hw).1
  have hsz := bmk s
  by_cases hp : p < s.length
  · have : (execOp a.eval ⟨dst, .next x true, ty, pos, af, gd⟩).run P w = .ok (.value (.tuple #[.bool true, goInt p, .int .i32 (Utf8.decode ⟨s.toArray⟩ p).1])) { w with heap := w.heap.setIfInBounds b (.stringIter ⟨s.toArray⟩ (p + (Utf8.decode ⟨s.toArray⟩ p).2)) } := by
      simp [execOp, he, Instr.next, run_getIter hw, run_setIter _ hw, hsz, hp]
    rw [this]
    refine ⟨g, .tuple [.bool true, .int .i64 p, .int .i32 (Utf8.decode ⟨s.toArray⟩ p).1], _, .id, .tuple _ _ rfl fun i c u hc hu => ?_, st.turn hb (fun j hj => ?_) (by simp) rfl rfl rfl (x' := .raw (.stringIter ⟨s.toArray⟩ (p + (Utf8.decode ⟨s.toArray⟩ p).2))) (by simp [hlt]), _, by rw [decide_eq_true hp], fun _ => ⟨rfl, rfl⟩, fun h => absurd hp h⟩
    · match i with
      | 0 => simp at hc hu; subst hc; subst hu; exact .bool _
      | 1 => simp at hc hu; subst hc; subst hu; exact .int _ _
      | 2 => simp at hc hu; subst hc; subst hu; exact .int _ _
      | i + 3 => simp at hc
    · simp only [Array.getElem?_setIfInBounds]; rw [if_neg (Ne.symm hj)]
  · have : (execOp a.eval ⟨dst, .next x true, ty, pos, af, gd⟩).run P w = .ok (.value (.tuple #[.bool false])) w := by
      simp [execOp, he, Instr.next, run_getIter hw, hsz, hp]
    rw [this]
    refine ⟨g, .tuple [.bool false], H, .id, .tuple _ _ rfl fun i c u hc hu => ?_, st, _, by rw [decide_eq_false hp], fun h => absurd h hp, fun _ => ⟨rfl, rfl⟩⟩
    match i with
    | 0 => simp at hc hu; subst hc; subst hu; exact .bool _
    | i + 1 => simp at hc
end
end Go.Proofs.YtncoklpecffokaaGreatDoor
