/-
  The frame, part 5: loads and stores, places, boxes, structs and slices made, calls.
-/
import Derived.Test.YtncoklpecffokaaGreatDoorSd
namespace Go.Proofs.YtncoklpecffokaaGreatDoor
open Go Go.RowKit

theorem setRow_eq (w : World) (g : Nat) (old cs : Array Value) (t : TypeId) (fr : Nat × Nat) (hg : w.heap[g]? = some (.cells old t fr)) : w.setRow g cs = { w with heap := w.heap.setIfInBounds g (.cells cs t fr) } := by
  unfold World.setRow
  congr 1
  apply Array.ext_getElem?
  intro i
  simp only [Array.getElem?_modify, Array.getElem?_setIfInBounds]
  split
  · rename_i e; subst e
    have hlt : g < w.heap.size := (Array.getElem?_eq_some_iff.1 hg).1
    rw [hg, if_pos hlt]; rfl
  · rfl

theorem RelV.oneCell {g : G} {x : AV} {v : Value} (h : RelV g x v) (h1 : x.one = true) : v.oneCell' = true := by
  cases h <;> first | rfl | (simp [AV.one] at h1; done)
/-- The cells of what a datum stands for. -/
theorem RelV.rcells {g : G} {x : AV} {v : Value} (h : RelV g x v) (h1 : x.one = true ∨ ∃ cs, x = .agg cs) : RelCells g x.cells v.cells := by
  rcases h1 with h1 | ⟨cs, rfl⟩
  · have hv := h.oneCell h1
    have e1 : x.cells = [x] := by cases x <;> first | rfl | (simp [AV.one] at h1; done)
    have e2 : v.cells = #[v] := by cases v <;> first | rfl | (simp [Value.oneCell'] at hv; done)
    rw [e1, e2]; exact RelCells.one h
  · obtain ⟨vs, rfl, hr⟩ := h.cells_agg; exact hr

section
variable {P : Program} {env : Env} {H : Heap} {dst : Option Tmp} {ty : TypeId} {pos : String} {af : Array Edge} {gd : Option (Nat × Bool)}

/-! ### loads -/
theorem pure_load1 {T : TypeId} {x : Operand} {c : AV} {cs : List AV} (ha : ∀ w, (isAgg T).run P w = .ok false w) (hx : Ev env x (.iptr (c :: cs))) : APure P ⟨dst, .load T x, ty, pos, af, gd⟩ env c := by
  intro g n a ka
  obtain ⟨v, he, hv⟩ := ev1 hx ka
  cases hv with
  | iptr cs b off vs hi hr =>
    refine ⟨vs 0, hr 0 c rfl, fun w hw => ?_⟩
    have h0 := hw b off (vs 0) (hi 0 (by simp))
    simp [execOp, he, Instr.loadAt, Instr.sureAddr, loadVar, ha, h0]
theorem pure_loadN {T : TypeId} {x : Operand} {k : Nat} {cs : List AV} (ha : ∀ w, (isAgg T).run P w = .ok true w) (hs : ∀ w, (sizeOf T).run P w = .ok k w) (hx : Ev env x (.iptr cs)) (hk : k ≤ cs.length) :
    APure P ⟨dst, .load T x, ty, pos, af, gd⟩ env (.agg (cs.take k)) := by
  intro g n a ka
  obtain ⟨v, he, hv⟩ := ev1 hx ka
  cases hv with
  | iptr cs b off vs hi hr =>
    obtain ⟨h1, h2⟩ := imm_load (P := P) hi hr hk
    exact ⟨_, .agg _ _ h1.1 h1.2, fun w hw => by simp [execOp, he, Instr.loadAt, Instr.sureAddr, loadVar, ha, hs, h2 w hw]⟩
theorem step_load1 {T S : TypeId} {x : Operand} {b o : Nat} {c : AV} {cs : List AV} (ha : ∀ w, (isAgg T).run P w = .ok false w) (hx : Ev env x (.ptr (some ⟨b, o, none⟩))) (hb : H.objs b = some (.box S cs)) (hc : cs[o]? = some c) :
    AStep P ⟨dst, .load T x, ty, pos, af, gd⟩ env H (fun y H' => y = c ∧ H' = H) := by
  intro g n a w ka s
  obtain ⟨v, he, hv⟩ := ev1 hx ka
  cases hv
  obtain ⟨u, hu, hr⟩ := s.box_cell hb hc
  have : (execOp a.eval ⟨dst, .load T x, ty, pos, af, gd⟩).run P w = .ok (.value u) w := by simp [execOp, he, Instr.loadAt, Instr.sureAddr, loadVar, ha, hu]
  rw [this]
  exact ⟨g, c, H, .id, hr, s, rfl, rfl⟩
theorem step_loadN {T S : TypeId} {x : Operand} {b o k : Nat} {cs : List AV} (ha : ∀ w, (isAgg T).run P w = .ok true w) (hs : ∀ w, (sizeOf T).run P w = .ok k w) (hx : Ev env x (.ptr (some ⟨b, o, none⟩)))
    (hb : H.objs b = some (.box S cs)) (hk : o + k ≤ cs.length) : AStep P ⟨dst, .load T x, ty, pos, af, gd⟩ env H (fun y H' => y = .agg ((cs.drop o).take k) ∧ H' = H) := by
  intro g n a w ka s
  obtain ⟨v, he, hv⟩ := ev1 hx ka
  cases hv
  obtain ⟨vs, hrun, hrel⟩ := box_load (P := P) s hb hk
  have : (execOp a.eval ⟨dst, .load T x, ty, pos, af, gd⟩).run P w = .ok (.value (.agg vs)) w := by simp [execOp, he, Instr.loadAt, Instr.sureAddr, loadVar, ha, hs, hrun]
  rw [this]
  exact ⟨g, _, H, .id, .agg _ vs hrel.1 hrel.2, s, rfl, rfl⟩

/-! ### stores -/
theorem row_put_get (cur : List Value) (o : Nat) (vs : List Value) (h : o + vs.length ≤ cur.length) (i : Nat) : (cur.take o ++ vs ++ cur.drop (o + vs.length))[i]? = if o ≤ i ∧ i < o + vs.length then vs[i - o]? else cur[i]? := by
  rw [List.append_assoc, List.getElem?_append]
  simp only [List.length_take]
  rw [show min o cur.length = o by omega]
  split
  · rename_i h1
    rw [if_neg (by omega), List.getElem?_take, if_pos h1]
  · rename_i h1
    rw [List.getElem?_append]
    split
    · rename_i h2; rw [if_pos (by omega)]
    · rename_i h2
      rw [if_neg (by omega), List.getElem?_drop]
      congr 1; omega
def putRow (cs : List AV) (o : Nat) (ds : List AV) : List AV := cs.take o ++ ds ++ cs.drop (o + ds.length)
theorem RelCells.putRow {g : G} {cs ds : List AV} {vs us : Array Value} (h : RelCells g cs vs) (k : RelCells g ds us) {o : Nat} (ho : o + ds.length ≤ cs.length) :
    RelCells g (putRow cs o ds) (vs.toList.take o ++ us.toList ++ vs.toList.drop (o + us.toList.length)).toArray := by
  have e1 := h.1
  have e2 := k.1
  refine ⟨by simp [Go.Proofs.YtncoklpecffokaaGreatDoor.putRow]; omega, fun i c v hc hv => ?_⟩
  have hv' : (vs.toList.take o ++ us.toList ++ vs.toList.drop (o + us.toList.length))[i]? = some v := by simpa using hv
  rw [row_put_get _ _ _ (by simp; omega)] at hv'
  have hc' : (cs.take o ++ ds ++ cs.drop (o + ds.length))[i]? = some c := hc
  have hcc : (cs.take o ++ ds ++ cs.drop (o + ds.length))[i]? = if o ≤ i ∧ i < o + ds.length then ds[i - o]? else cs[i]? := by
    rw [List.append_assoc, List.getElem?_append]
    simp only [List.length_take]
    rw [show min o cs.length = o by omega]
    split
    · rename_i h1; rw [if_neg (by omega), List.getElem?_take, if_pos h1]
    · rename_i h1
      rw [List.getElem?_append]
      split
      · rename_i h2; rw [if_pos (by omega)]
      · rename_i h2; rw [if_neg (by omega), List.getElem?_drop]; congr 1; omega
  rw [hcc] at hc'
  by_cases hin : o ≤ i ∧ i < o + ds.length
  · rw [if_pos hin] at hc'
    rw [if_pos (by simp; omega)] at hv'
    exact k.2 _ c v hc' (by simpa using hv')
  · rw [if_neg hin] at hc'
    rw [if_neg (by simp; omega)] at hv'
    exact h.2 i c v hc' (by simpa using hv')
theorem run_storeCells_th (g o : Nat) (t : TypeId) (fz : Nat × Nat) : ∀ (vs : List Value) (i : Nat) (cur : Array Value) (w : World), w.heap[g]? = some (.cells cur t fz) → Thaw cur.size fz → o + i + vs.length ≤ cur.size → (∀ v ∈ vs, v.oneCell' = true) →
    (storeCells ⟨g, o, none⟩ vs i).run P w = .ok () (w.setRow g (cur.toList.take (o + i) ++ vs ++ cur.toList.drop (o + i + vs.length)).toArray)
  | [], i, cur, w, hg, _, _, _ => by
    simp only [storeCells, List.append_nil, List.length_nil, Nat.add_zero, List.take_append_drop, Array.toArray_toList]
    rw [setRow_self w g cur t fz hg]
    rfl
  | v :: rest, i, cur, w, hg, hth, hl, h1 => by
    have hi : o + i < cur.size := by simp at hl; omega
    have hadd : (⟨g, o, none⟩ : Addr).add i = ⟨g, o + i, none⟩ := by unfold Addr.add; split <;> simp_all
    have hcell : w.cell? ⟨g, o + i, none⟩ = some cur[o + i] := by simp [World.cell?, hg, hi]
    have hfro : w.frozen? ⟨g, o + i, none⟩ = false := by
      rcases hth with rfl | hth
      · simp [World.frozen?, hg]
      · obtain ⟨lo, hi'⟩ := fz
        simp only [World.frozen?, hg, Bool.and_eq_false_iff, decide_eq_false_iff_not]
        left
        simp only at hth
        omega
    have hst : (store ((⟨g, o, none⟩ : Addr).add i) v).run P w = .ok () (w.setRow g (cur.setIfInBounds (o + i) v)) := by
      rw [hadd, run_store P w _ v _ (h1 v (by simp)), hcell]
      simp [hfro, setCell_eq_setRow w g (o + i) cur t fz v hg]
    have ih := run_storeCells_th g o t fz rest (i + 1) (cur.setIfInBounds (o + i) v) (w.setRow g (cur.setIfInBounds (o + i) v)) (setRow_heap w g cur _ t _ hg) (by simpa using hth) (by simp at hl ⊢; omega) (fun x hx => h1 x (by simp [hx]))
    simp only [storeCells, Sem.run_bind, hst, Result.andThen_ok, ih, setRow_setRow]
    congr 3
    have e := list_seg_step cur.toList (o + i) v rest (by simp at hl ⊢; omega)
    simpa [Array.toList_setIfInBounds, Nat.add_assoc] using e
theorem step_store {T S : TypeId} {p x : Operand} {b o k : Nat} {cs : List AV} {y : AV} (hs : ∀ w, (sizeOf T).run P w = .ok k w) (hp : Ev env p (.ptr (some ⟨b, o, none⟩))) (hx : Ev env x y)
    (hy : y.cells.all AV.one = true) (hyk : y.cells.length = k) (hy1 : y.one = true ∨ ∃ cs, y = .agg cs) (hb : H.objs b = some (.box S cs)) (hk : o + k ≤ cs.length) :
    AStep P ⟨dst, .store T p x, ty, pos, af, gd⟩ env H (fun z H' => z = .raw undef ∧ H' = H.set b (.box S (putRow cs o y.cells))) := by
  intro g n a w ka s
  obtain ⟨v, he, hv⟩ := ev1 hp ka
  obtain ⟨u, hf, hu⟩ := ev1 hx ka
  cases hv
  obtain ⟨vs, ⟨fz, hw, hth⟩, hrel⟩ := s.box b S cs hb
  have hcells := hu.rcells hy1
  have hsz : u.cells.size = k := by rw [← hcells.1]; exact hyk
  have hone : ∀ v ∈ u.cells.toList, v.oneCell' = true := fun v hv => by
    obtain ⟨i, hi, hiv⟩ := List.getElem_of_mem hv
    have hi' : i < y.cells.length := by rw [hcells.1]; simpa using hi
    have h1 : u.cells[i]? = some v := by rw [← Array.getElem?_toList, List.getElem?_eq_getElem hi, hiv]
    have h2 := hcells.2 i _ v (List.getElem?_eq_getElem hi') h1
    exact h2.oneCell (List.all_eq_true.1 hy _ (List.getElem_mem hi'))
  have hrun := run_storeCells_th (P := P) b o S fz u.cells.toList 0 vs w hw hth (by have := hrel.1; simp; omega) hone
  have : (execOp a.eval ⟨dst, .store T p x, ty, pos, af, gd⟩).run P w = .ok .skip (w.setRow b (vs.toList.take o ++ u.cells.toList ++ vs.toList.drop (o + u.cells.toList.length)).toArray) := by
    simp only [Nat.add_zero] at hrun
    simp [execOp, he, hf, Instr.storeAt, Instr.sureAddr, storeVar, hs, hsz]
    rw [show vs.toList.take o ++ u.cells.toList = (List.take o vs.toList ++ u.cells.toList) from rfl] at hrun
    simp [hsz] at hrun
    rw [hrun]; rfl
  rw [this]
  refine ⟨g, .raw undef, _, .id, .raw _, ?_, rfl, rfl⟩
  refine s.turn hb (fun j hj => setRow_other w b j _ hj) (by simp) rfl rfl rfl ⟨_, ⟨fz, setRow_heap w b vs _ S fz hw, ?_⟩, hrel.putRow hcells (by omega)⟩
  have e : (vs.toList.take o ++ u.cells.toList ++ vs.toList.drop (o + u.cells.toList.length)).toArray.size = vs.size := by have := hrel.1; simp; omega
  rw [e]; exact hth

/-! ### new boxes -/
/-- A box of which nothing will ever be written: its cells never turn. -/
theorem step_boxI {T : TypeId} {x : Operand} {y : AV} (hx : Ev env x y) (hy1 : y.one = true ∨ ∃ cs, y = .agg cs) : AStep P ⟨dst, .box T x, ty, pos, af, gd⟩ env H (fun z H' => z = .iptr y.cells ∧ H' = H) := by
  intro g n a w ka s
  obtain ⟨v, he, hv⟩ := ev1 hx ka
  have hcells := hv.rcells hy1
  have : (execOp a.eval ⟨dst, .box T x, ty, pos, af, gd⟩).run P w = .ok (.value (.pointer (some ⟨w.heap.size, 0, none⟩))) (w.alloc (.cells v.cells T)) := by
    simp [execOp, he, Instr.box, newVar, newRow]
  rw [this]
  have s' := s.new_imm v.cells T (0, 0) v.cells.size
  have hle : g.le (g.addImm w.heap.size fun o => if o < v.cells.size then v.cells[o]? else none) := G.le_addImm (fun o u hu => by rw [s.imm_new] at hu; cases hu)
  refine ⟨_, .iptr y.cells, H, hle, ?_, s', rfl, rfl⟩
  refine .iptr y.cells _ 0 (fun i => v.cells.getD i undef) (fun i hi => ?_) (fun i c hc => ?_)
  · have hi' : i < v.cells.size := by rw [← hcells.1]; exact hi
    rw [G.imm_addImm]; simp [hi']
  · obtain ⟨u, hu, hr⟩ := hcells.at hc
    have : v.cells.getD i undef = u := by simp [hu]
    rw [this]; exact hr.mono hle
theorem step_box {T : TypeId} {x : Operand} {y : AV} (hx : Ev env x y) (hy1 : y.one = true ∨ ∃ cs, y = .agg cs) :
    AStep P ⟨dst, .box T x, ty, pos, af, gd⟩ env H (fun z H' => ∃ b, H.objs b = none ∧ z = .ptr (some ⟨b, 0, none⟩) ∧ H' = H.set b (.box T y.cells)) := by
  intro g n a w ka s
  obtain ⟨v, he, hv⟩ := ev1 hx ka
  have hcells := hv.rcells hy1
  have : (execOp a.eval ⟨dst, .box T x, ty, pos, af, gd⟩).run P w = .ok (.value (.pointer (some ⟨w.heap.size, 0, none⟩))) (w.alloc (.cells v.cells T)) := by
    simp [execOp, he, Instr.box, newVar, newRow]
  rw [this]
  exact ⟨g, _, _, .id, .ptr _, s.new_box T hcells, w.heap.size, s.new_none, rfl, rfl⟩
theorem step_alloc {T : TypeId} {z : Value} {cs : List AV} (hz : ∀ w, (zeroValue T).run P w = .ok z w) (hc : ∀ g, RelCells g cs z.cells) :
    AStep P ⟨dst, .alloc T, ty, pos, af, gd⟩ env H (fun y H' => ∃ b, H.objs b = none ∧ y = .ptr (some ⟨b, 0, none⟩) ∧ H' = H.set b (.box T cs)) := by
  intro g n a w ka s
  have : (execOp a.eval ⟨dst, .alloc T, ty, pos, af, gd⟩).run P w = .ok (.value (.pointer (some ⟨w.heap.size, 0, none⟩))) (w.alloc (.cells z.cells T)) := by
    simp [execOp, Instr.alloc, hz, newVar, newRow]
  rw [this]
  exact ⟨g, _, _, .id, .ptr _, s.new_box T (hc g), w.heap.size, s.new_none, rfl, rfl⟩

/-! ### places -/
theorem run_fieldAt {S : TypeId} {fs : Array Field} {f : Nat} {fd : Field} {k : Nat} {b o : Nat} (hu : P.underlying S = some (.struct fs)) (hf : fs[f]? = some fd) (hs : ∀ w, (sizeOf fd.type).run P w = .ok (k + 1) w) (w : World) :
    (Instr.fieldAt S (.pointer (some ⟨b, o, none⟩)) f).run P w = .ok (.pointer (some ⟨b, o + fd.offset, none⟩)) w := by
  simp [Instr.fieldAt, underlying, hu, hf, Instr.sureAddr, fieldPlace, hs, Addr.add_off]
theorem pure_fieldI {S : TypeId} {fs : Array Field} {f : Nat} {fd : Field} {k : Nat} {x : Operand} {cs : List AV} (hu : P.underlying S = some (.struct fs)) (hf : fs[f]? = some fd) (hs : ∀ w, (sizeOf fd.type).run P w = .ok (k + 1) w)
    (hx : Ev env x (.iptr cs)) : APure P ⟨dst, .fieldAddr S x f, ty, pos, af, gd⟩ env (.iptr (cs.drop fd.offset)) := by
  intro g n a ka
  obtain ⟨v, he, hv⟩ := ev1 hx ka
  cases hv with
  | iptr cs b off vs hi hr =>
    refine ⟨_, .iptr _ b (off + fd.offset) (fun i => vs (fd.offset + i)) (fun i h => ?_) (fun i c h => ?_), fun w _ => by simp [execOp, he, run_fieldAt hu hf hs]⟩
    · rw [Nat.add_assoc]; exact hi _ (by simp at h; omega)
    · rw [List.getElem?_drop] at h; exact hr _ _ h
theorem pure_field {S : TypeId} {fs : Array Field} {f : Nat} {fd : Field} {k : Nat} {x : Operand} {b o : Nat} (hu : P.underlying S = some (.struct fs)) (hf : fs[f]? = some fd) (hs : ∀ w, (sizeOf fd.type).run P w = .ok (k + 1) w)
    (hx : Ev env x (.ptr (some ⟨b, o, none⟩))) : APure P ⟨dst, .fieldAddr S x f, ty, pos, af, gd⟩ env (.ptr (some ⟨b, o + fd.offset, none⟩)) := by
  intro g n a ka
  obtain ⟨v, he, hv⟩ := ev1 hx ka
  cases hv
  exact ⟨_, .ptr _, fun w _ => by simp [execOp, he, run_fieldAt hu hf hs]⟩
theorem pure_indexS {T E : TypeId} {x i : Operand} {sz : Nat} {xs : List AV} {tl : Tail} {k : IntKind} {m : Int} {e : AV} (hu : P.underlying T = some (.slice E)) (hs : ∀ w, (sizeOf E).run P w = .ok sz w)
    (hx : Ev env x (.slice sz xs tl)) (hi : Ev env i (.int k m)) (h0 : 0 ≤ m) (he : xs[m.toNat]? = some e) : APure P ⟨dst, .indexAddr T x i, ty, pos, af, gd⟩ env (.iptr e.cells) := by
  intro g n a ka
  obtain ⟨v, hev, hv⟩ := ev1 hx ka
  obtain ⟨u, hfu, hu'⟩ := ev1 hi ka
  cases hu'
  have hlt : m.toNat < xs.length := (List.getElem?_eq_some_iff.1 he).1
  cases hv with
  | nilSlice => simp at hlt
  | voidSlice => simp at hlt
  | slice sz xs tl b off cap vs hsz himm hr hlen hcap htl =>
    have hes : e.cells.length = sz := (hsz e (List.mem_of_getElem? he)).1
    have hmul : m.toNat * sz + sz ≤ xs.length * sz := by
      have := Nat.mul_le_mul_right sz (show m.toNat + 1 ≤ xs.length from hlt)
      rwa [Nat.add_mul, Nat.one_mul] at this
    refine ⟨_, .iptr e.cells b (off + m.toNat * sz) (fun j => vs (m.toNat * sz + j)) (fun j hj => ?_) (fun j c hc => hr _ j e c he hc), fun w _ => ?_⟩
    · rw [Nat.add_assoc]; exact himm _ (by omega)
    · have hm : m < (xs.length : Int) := by omega
      simp [execOp, hev, hfu, Instr.indexAt, asIntOf, underlying, hu, hs, h0, hm, Addr.add_off]
theorem pure_indexA {T E : TypeId} {x i : Operand} {N sz : Nat} {cs : List AV} {k : IntKind} {m : Int} (hu : P.underlying T = some (.array N E)) (hs : ∀ w, (sizeOf E).run P w = .ok sz w)
    (hx : Ev env x (.iptr cs)) (hi : Ev env i (.int k m)) (h0 : 0 ≤ m) (hm : m < N) : APure P ⟨dst, .indexAddr T x i, ty, pos, af, gd⟩ env (.iptr (cs.drop (m.toNat * sz))) := by
  intro g n a ka
  obtain ⟨v, hev, hv⟩ := ev1 hx ka
  obtain ⟨u, hfu, hu'⟩ := ev1 hi ka
  cases hu'
  cases hv with
  | iptr cs b off vs hii hr =>
    refine ⟨_, .iptr _ b (off + m.toNat * sz) (fun j => vs (m.toNat * sz + j)) (fun j hj => ?_) (fun j c hc => ?_), fun w _ => ?_⟩
    · rw [Nat.add_assoc]; exact hii _ (by simp at hj; omega)
    · rw [List.getElem?_drop] at hc; exact hr _ _ hc
    · simp [execOp, hev, hfu, Instr.indexAt, Instr.sureAddr, asIntOf, underlying, hu, hs, h0, hm, Addr.add_off]
theorem pure_indexB {T E : TypeId} {x i : Operand} {N sz : Nat} {b o : Nat} {k : IntKind} {m : Int} (hu : P.underlying T = some (.array N E)) (hs : ∀ w, (sizeOf E).run P w = .ok sz w)
    (hx : Ev env x (.ptr (some ⟨b, o, none⟩))) (hi : Ev env i (.int k m)) (h0 : 0 ≤ m) (hm : m < N) : APure P ⟨dst, .indexAddr T x i, ty, pos, af, gd⟩ env (.ptr (some ⟨b, o + m.toNat * sz, none⟩)) := by
  intro g n a ka
  obtain ⟨v, hev, hv⟩ := ev1 hx ka
  obtain ⟨u, hfu, hu'⟩ := ev1 hi ka
  cases hu'; cases hv
  exact ⟨_, .ptr _, fun w _ => by simp [execOp, hev, hfu, Instr.indexAt, Instr.sureAddr, asIntOf, underlying, hu, hs, h0, hm, Addr.add_off]⟩
/-- A place in a row of the call's own ('make', then stored into). -/
theorem pure_indexM {T E : TypeId} {x i : Operand} {sz l c b o : Nat} {k : IntKind} {m : Int} (hu : P.underlying T = some (.slice E)) (hs : ∀ w, (sizeOf E).run P w = .ok sz w)
    (hx : Ev env x (.mslice (some ⟨b, o, none⟩) l c)) (hi : Ev env i (.int k m)) (h0 : 0 ≤ m) (hm : m < l) : APure P ⟨dst, .indexAddr T x i, ty, pos, af, gd⟩ env (.ptr (some ⟨b, o + m.toNat * sz, none⟩)) := by
  intro g n a ka
  obtain ⟨v, hev, hv⟩ := ev1 hx ka
  obtain ⟨u, hfu, hu'⟩ := ev1 hi ka
  cases hu'; cases hv
  exact ⟨_, .ptr _, fun w _ => by simp [execOp, hev, hfu, Instr.indexAt, asIntOf, underlying, hu, hs, h0, hm, Addr.add_off]⟩
theorem pure_nilCheckI {x : Operand} {cs : List AV} (hx : Ev env x (.iptr cs)) : APure P ⟨dst, .nilCheck x, ty, pos, af, gd⟩ env (.iptr cs) := by
  intro g n a ka
  obtain ⟨v, hev, hv⟩ := ev1 hx ka
  have h := hv
  cases hv
  exact ⟨_, h, fun w _ => by simp [execOp, hev]⟩
theorem pure_nilCheck {x : Operand} {p : Addr} (hx : Ev env x (.ptr (some p))) : APure P ⟨dst, .nilCheck x, ty, pos, af, gd⟩ env (.ptr (some p)) := by
  intro g n a ka
  obtain ⟨v, hev, hv⟩ := ev1 hx ka
  cases hv
  exact ⟨_, .ptr _, fun w _ => by simp [execOp, hev]⟩
theorem pure_nilCheckF {x : Operand} {f : FuncId} {cs : List AV} (hx : Ev env x (.func f cs)) : APure P ⟨dst, .nilCheck x, ty, pos, af, gd⟩ env (.func f cs) := by
  intro g n a ka
  obtain ⟨v, hev, hv⟩ := ev1 hx ka
  have h := hv
  cases hv
  exact ⟨_, h, fun w _ => by simp [execOp, hev]⟩
theorem pure_extract {x : Operand} {vs : List AV} {i : Nat} {y : AV} (hx : Ev env x (.tuple vs)) (hy : vs[i]? = some y) : APure P ⟨dst, .extract x i, ty, pos, af, gd⟩ env y := by
  intro g n a ka
  obtain ⟨v, hev, hv⟩ := ev1 hx ka
  cases hv with
  | tuple cs us hn hr =>
    have hlt : i < us.size := by rw [← hn]; exact (List.getElem?_eq_some_iff.1 hy).1
    exact ⟨us[i], hr i y _ hy (Array.getElem?_eq_getElem hlt), fun w _ => by simp [execOp, hev, Instr.extract, hlt]⟩
theorem pure_func {f : FuncId} : APure P ⟨dst, .makeFunc (.func f) #[] #[], ty, pos, af, gd⟩ env (.func f []) :=
  fun _ _ _ _ => ⟨_, .func f [] #[] rfl (fun i c v hc _ => by simp at hc), fun w _ => by simp [execOp, Instr.makeFunc]⟩
theorem pure_func1 {f : FuncId} {x : Operand} {y : AV} (hx : Ev env x y) : APure P ⟨dst, .makeFunc (.func f) #[] #[x], ty, pos, af, gd⟩ env (.func f [y]) := by
  intro g n a ka
  exact ⟨_, .func f [y] #[a.eval x] rfl (fun i c v hc hv => by
    cases i with
    | zero => simp at hc hv; subst hc; subst hv; exact hx.rel ka
    | succ i => simp at hc), fun w _ => by simp [execOp, Instr.makeFunc]⟩
theorem pure_func2 {f : FuncId} {x x' : Operand} {y y' : AV} (hx : Ev env x y) (hx' : Ev env x' y') : APure P ⟨dst, .makeFunc (.func f) #[] #[x, x'], ty, pos, af, gd⟩ env (.func f [y, y']) := by
  intro g n a ka
  exact ⟨_, .func f [y, y'] #[a.eval x, a.eval x'] rfl (fun i c v hc hv => by
    match i with
    | 0 => simp at hc hv; subst hc; subst hv; exact hx.rel ka
    | 1 => simp at hc hv; subst hc; subst hv; exact hx'.rel ka
    | i + 2 => simp at hc), fun w _ => by simp [execOp, Instr.makeFunc]⟩
theorem pure_func3 {f : FuncId} {x x' x2 : Operand} {y y' y2 : AV} (hx : Ev env x y) (hx' : Ev env x' y') (hx2 : Ev env x2 y2) : APure P ⟨dst, .makeFunc (.func f) #[] #[x, x', x2], ty, pos, af, gd⟩ env (.func f [y, y', y2]) := by
  intro g n a ka
  exact ⟨_, .func f [y, y', y2] #[a.eval x, a.eval x', a.eval x2] rfl (fun i c v hc hv => by
    match i with
    | 0 => simp at hc hv; subst hc; subst hv; exact hx.rel ka
    | 1 => simp at hc hv; subst hc; subst hv; exact hx'.rel ka
    | 2 => simp at hc hv; subst hc; subst hv; exact hx2.rel ka
    | i + 3 => simp at hc), fun w _ => by simp [execOp, Instr.makeFunc]⟩

/-! ### calls -/
inductive Evs (env : Env) : List Operand → List AV → Prop
  | nil : Evs env [] []
  | cons {o x os xs} (h : Ev env o x) (k : Evs env os xs) : Evs env (o :: os) (x :: xs)
theorem Evs.rel {env : Env} {os : List Operand} {xs : List AV} (h : Evs env os xs) {g : G} {n : Nat} {a : Act} (k : RelAct g n env a) : RelVs g xs (os.map a.eval) := by
  induction h with
  | nil => exact ⟨rfl, fun i x v hx _ => by simp at hx⟩
  | cons h _ ih =>
    refine ⟨by simp [ih.1], fun i x v hx hv => ?_⟩
    cases i with
    | zero => simp at hx hv; subst hx; subst hv; exact h.rel k
    | succ i => simp at hx hv; exact ih.2 i x v hx (by simpa using hv)
theorem RelVs.append {g : G} {xs ys : List AV} {vs us : List Value} (h : RelVs g xs vs) (k : RelVs g ys us) : RelVs g (xs ++ ys) (vs ++ us) := by
  refine ⟨by simp [h.1, k.1], fun i x v hx hv => ?_⟩
  rw [List.getElem?_append] at hx hv
  rw [h.1] at hx
  split at hx
  · rename_i hlt; rw [if_pos hlt] at hv; exact h.2 i x v hx hv
  · rename_i hlt; rw [if_neg hlt] at hv; exact k.2 _ x v hx hv
theorem step_call {f : FuncId} {fo : Operand} {cap : List AV} {os : Array Operand} {xs : List AV} {ts : Array TypeId} {R : AV → Heap → Prop} (hent : ∀ args w, (callFunc f args).run P w = .ok (.enter f args) w)
    (hf : Ev env fo (.func f cap)) (ha : Evs env os.toList xs) (h : ACall P f (xs ++ cap) H R) : AStep P ⟨dst, .call { callee := .value fo, args := os, argTypes := ts }, ty, pos, af, gd⟩ env H R := by
  intro g n a w ka s
  obtain ⟨v, hev, hv⟩ := ev1 hf ka
  cases hv with
  | func f cap us hn hr =>
    have hargs := (ha.rel ka).append (show RelVs g cap us.toList from ⟨by simpa using hn, fun i c v hc hv => hr i c v hc (by simpa using hv)⟩)
    have : (execOp a.eval ⟨dst, .call { callee := .value fo, args := os, argTypes := ts }, ty, pos, af, gd⟩).run P w = .ok (.enter f (os.map a.eval ++ us)) w := by
      simp [execOp, resolve, hev, Deferred.ofValue, invoke, hent]
    rw [this]
    have hc := h g _ w hargs s
    have e : (List.map a.eval os.toList ++ us.toList).toArray = os.map a.eval ++ us := by
      apply Array.ext'; simp
    rw [e] at hc
    exact hc
theorem step_call0 {f : FuncId} {os : Array Operand} {xs : List AV} {ts : Array TypeId} {R : AV → Heap → Prop} (hent : ∀ args w, (callFunc f args).run P w = .ok (.enter f args) w)
    (ha : Evs env os.toList xs) (h : ACall P f xs H R) : AStep P ⟨dst, .call { callee := .value (.func f), args := os, argTypes := ts }, ty, pos, af, gd⟩ env H R :=
  step_call hent (.func f) ha (by simpa using h)
end

end Go.Proofs.YtncoklpecffokaaGreatDoor
