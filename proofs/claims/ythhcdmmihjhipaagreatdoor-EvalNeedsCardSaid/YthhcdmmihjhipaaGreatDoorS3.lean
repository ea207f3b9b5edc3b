/-
  The frame, part 5: loads and stores, places, boxes, structs and slices made, calls.
-/
import Derived.Test.YthhcdmmihjhipaaGreatDoorS2
namespace Go.Proofs.YthhcdmmihjhipaaGreatDoor
open Go Go.RowKit

theorem setRow_eq (w : World) (g : Nat) (old cs : Array Value) (t : TypeId) (fr : Nat × Nat) (hg : w.heap[g]? = some (.cells old t fr)) : w.setRow g cs = { w with heap := w.heap.setIfInBounds g (.cells cs t fr) } := by
  unfold World.setRow
  congr 1
  apply Array.ext_getElem?
  intro i
  simp only [Array.getElem?_modify, Array.getElem?_setIfInBounds]
  split
  · rename_i e; subst e
    have hlt : g < w.heap.size := (Array.getElem?_eq_some_iff.1 hg).1
    rw [hg, if_pos hlt]; rfl
  · rfl

theorem RelV.oneCell {g : G} {x : AV} {v : Value} (h : RelV g x v) (h1 : x.one = true) : v.oneCell' = true := by
  cases h <;> first | rfl | (simp [AV.one] at h1; done)
theorem RelV.rcells {g : G} {x : AV} {v : Value} (h : RelV g x v) (h1 : x.one = true ∨ ∃ cs, x = .agg cs) : RelCells g x.cells v.cells := by
  rcases h1 with h1 | ⟨cs, rfl⟩
  · have hv := h.oneCell h1
    have e1 : x.cells = [x] := by cases x <;> first | rfl | (simp [AV.one] at h1; done)
    have e2 : v.cells = #[v] := by cases v <;> first | rfl | (simp [Value.oneCell'] at hv; done)
    rw [e1, e2]; exact RelCells.one h
  · obtain ⟨vs, rfl, hr⟩ := h.cells_agg; exact hr

section
variable {P : Program} {env : Env} {H : Heap} {dst : Option Tmp} {ty : TypeId} {pos : String} {af : Array Edge} {gd : Option (Nat × Bool)}

/-! ### loads -/
theorem pure_load1 {T : TypeId} {x : Operand} {c : AV} {cs : List AV} (ha : ∀ w, (isAgg T).run P w = .ok false w) (hx : Ev env x (.iptr (c :: cs))) : APure P ⟨dst, .load T x, ty, pos, af, gd⟩ env c := by
  intro g n a ka
  obtain ⟨v, he, hv⟩ := ev1 hx ka
  cases hv with
  | iptr cs b off vs hi hr =>
    refine ⟨vs 0, hr 0 c rfl, fun w hw => ?_⟩
    have h0 := hw b off (vs 0) (hi 0 (by simp))
    simp [execOp, he, Instr.loadAt, Instr.sureAddr, loadVar, ha, h0]
theorem pure_loadN {T : TypeId} {x : Operand} {k : Nat} {cs : List AV} (ha : ∀ w, (isAgg T).run P w = .ok true w) (hs : ∀ w, (sizeOf T).run P w = .ok k w) (hx : Ev env x (.iptr cs)) (hk : k ≤ cs.length) :
    APure P ⟨dst, .load T x, ty, pos, af, gd⟩ env (.agg (cs.take k)) := by
  intro g n a ka
  obtain ⟨v, he, hv⟩ := ev1 hx ka
  cases hv with
  | iptr cs b off vs hi hr =>
    obtain ⟨h1, h2⟩ := imm_load (P := P) hi hr hk
    exact ⟨_, .agg _ _ h1.1 h1.2, fun w hw => by simp [execOp, he, Instr.loadAt, Instr.sureAddr, loadVar, ha, hs, h2 w hw]⟩
theorem step_load1 {T S : TypeId} {x : Operand} {b o : Nat} {c : AV} {cs : List AV} (ha : ∀ w, (isAgg T).run P w = .ok false w) (hx : Ev env x (.ptr (some ⟨b, o, none⟩))) (hb : H.objs b = some (.box S cs)) (hc : cs[o]? = some c) :
    AStep P ⟨dst, .load T x, ty, pos, af, gd⟩ env H (fun y H' => y = c ∧ H' = H) := by
  intro g n a w ka s
  obtain ⟨v, he, hv⟩ := ev1 hx ka
  cases hv
  obtain ⟨u, hu, hr⟩ := s.box_cell hb hc
  have : (execOp a.eval ⟨dst, .load T x, ty, pos, af, gd⟩).run P w = .ok (.value u) w := by simp [execOp, he, Instr.loadAt, Instr.sureAddr, loadVar, ha, hu]
  rw [this]
  exact ⟨g, c, H, .id, hr, s, rfl, rfl⟩
theorem step_loadN {T S : TypeId} {x : Operand} {b o k : Nat} {cs : List AV} (ha : ∀ w, (isAgg T).run P w = .ok true w) (hs : ∀ w, (sizeOf T).run P w = .ok k w) (hx : Ev env x (.ptr (some ⟨b, o, none⟩)))
    (hb : H.objs b = some (.box S cs)) (hk : o + k ≤ cs.length) : AStep P ⟨dst, .load T x, ty, pos, af, gd⟩ env H (fun y H' => y = .agg ((cs.drop o).take k) ∧ H' = H) := by
  intro g n a w ka s
  obtain ⟨v, he, hv⟩ := ev1 hx ka
  cases hv
  obtain ⟨vs, hrun, hrel⟩ := box_load (P := P) s hb hk
  have : (execOp a.eval ⟨dst, .load T x, ty, pos, af, gd⟩).run P w = .ok (.value (.agg vs)) w := by simp [execOp, he, Instr.loadAt, Instr.sureAddr, loadVar, ha, hs, hrun]
  rw [this]
  exact ⟨g, _, H, .id, .agg _ vs hrel.1 hrel.2, s, rfl, rfl⟩

/-! ### stores -/
theorem row_put_get (cur : List Value) (o : Nat) (vs : List Value) (h : o + vs.length ≤ cur.length) (i : Nat) : (cur.take o ++ vs ++ cur.drop (o + vs.length))[i]? = if o ≤ i ∧ i < o + vs.length then vs[i - o]? else cur[i]? := by
  rw [List.append_assoc, List.getElem?_append]
  simp only [List.length_take]
  rw [show min o cur.length = o by omega]
  split
  · rename_i h1
    rw [if_neg (by omega), List.getElem?_take, if_pos h1]
  · rename_i h1
    rw [List.getElem?_append]
    split
    · rename_i h2; rw [if_pos (by omega)]
    · rename_i h2
      rw [if_neg (by omega), List.getElem?_drop]
      congr 1; omega
def putRow (cs : List AV) (o : Nat) (ds : List AV) : List AV := cs.take o ++ ds ++ cs.drop (o + ds.length)
theorem RelCells.putRow {g : G} {cs ds : List AV} {vs us : Array Value} (h : RelCells g cs vs) (k : RelCells g ds us) {o : Nat} (ho : o + ds.length ≤ cs.length) :
    RelCells g (putRow cs o ds) (vs.toList.take o ++ us.toList ++ vs.toList.drop (o + us.toList.length)).toArray := by
  have e1 := h.1
  have e2 := k.1
  refine ⟨by simp [Go.Proofs.YthhcdmmihjhipaaGreatDoor.putRow]; omega, fun i c v hc hv => ?_⟩
  have hv' : (vs.toList.take o ++ us.toList ++ vs.toList.drop (o + us.toList.length))[i]? = some v := by simpa using hv
  rw [row_put_get _ _ _ (by simp; omega)] at hv'
  have hc' : (cs.take o ++ ds ++ cs.drop (o + ds.length))[i]? = some c := hc
  have hcc : (cs.take o ++ ds ++ cs.drop (o + ds.length))[i]? = if o ≤ i ∧ i < o + ds.length then ds[i - o]? else cs[i]? := by
    rw [List.append_assoc, List.getElem?_append]
    simp only [List.length_take]
    rw [show min o cs.length = o by omega]
    split
    · rename_i h1; rw [if_neg (by omega), List.getElem?_take, if_pos h1]
    · rename_i h1
      rw [List.getElem?_append]
      split
      · rename_i h2; rw [if_pos (by omega)]
      · rename_i h2; rw [if_neg (by omega), List.getElem?_drop]; congr 1; omega
  rw [hcc] at hc'
  by_cases hin : o ≤ i ∧ i < o + ds.length
  · rw [if_pos hin] at hc'
    rw [if_pos (by simp; omega)] at hv'
    exact k.2 _ c v hc' (by simpa using hv')
  · rw [if_neg hin] at hc'
    rw [if_neg (by simp; omega)] at hv'
    exact h.2 i c v hc' (by simpa using hv')
theorem run_storeCells_th (g o : Nat) (t : TypeId) (fz : Nat × Nat) : ∀ (vs : List Value) (i : Nat) (cur : Array Value) (w : World), w.heap[g]? = some (.cells cur t fz) → Thaw cur.size fz → o + i + vs.length ≤ cur.size → (∀ v ∈ vs, v.oneCell' = true) →
    (storeCells ⟨g, o, none⟩ vs i).run P w = .ok () (w.setRow g (cur.toList.take (o + i) ++ vs ++ cur.toList.drop (o + i + vs.length)).toArray)
  | [], i, cur, w, hg, _, _, _ => by
    simp only [storeCells, List.append_nil, List.length_nil, Nat.add_zero, List.take_append_drop, Array.toArray_toList]
    rw [setRow_self w g cur t fz hg]
    rfl
  | v :: rest, i, cur, w, hg, hth, hl, h1 => by
    have hi : o + i < cur.size := by simp at hl; omega
    have hadd : (⟨g, o, none⟩ : Addr).add i = ⟨g, o + i, none⟩ := by unfold Addr.add; split <;> simp_all
    have hcell : w.cell? ⟨g, o + i, none⟩ = some cur[o + i] := by simp [World.cell?, hg, hi]
    have hfro : w.frozen? ⟨g, o + i, none⟩ = false := by
      rcases hth with rfl | hth
      · simp [World.frozen?, hg]
      · obtain ⟨lo, hi'⟩ := fz
        simp only [World.frozen?, hg, Bool.and_eq_false_iff, decide_eq_false_iff_not]
        left
        simp only at hth
        omega
    have hst : (store ((⟨g, o, none⟩ : Addr).add i) v).run P w = .ok () (w.setRow g (cur.setIfInBounds (o + i) v)) := by
      rw [hadd, run_store P w _ v _ (h1 v (by simp)), hcell]
      simp [hfro, setCell_eq_setRow w g (o + i) cur t fz v hg]
    have ih := run_storeCells_th g o t fz rest (i + 1) (cur.setIfInBounds (o + i) v) (w.setRow g (cur.setIfInBounds (o + i) v)) (setRow_heap w g cur _ t _ hg) (by simpa using hth) (by simp at hl ⊢; omega) (fun x hx => h1 x (by simp [hx]))
    simp only [storeCells, Sem.run_bind, hst, Result.andThen_ok, ih, setRow_setRow]
    congr 3
    have e := list_seg_step cur.toList (o + i) v rest (by simp at hl ⊢; omega)
    simpa [Array.toList_setIfInBounds, Nat.add_assoc] using e
theorem step_store {T S : TypeId} {p x : Operand} {b o k : Nat} {cs : List AV} {y : AV} (hs : ∀ w, (sizeOf T).run P w = .ok k w) (hp : Ev env p (.ptr (some ⟨b, o, none⟩))) (hx : Ev env x y)
    (hy : y.cells.all AV.one = true) (hyk : y.cells.length = k) (hy1 : y.one = true ∨ ∃ cs, y = .agg cs) (hb : H.objs b = some (.box S cs)) (hk : o + k ≤ cs.length) :
    AStep P ⟨dst, .store T p x, ty, pos, af, gd⟩ env H (fun z H' => z = .raw undef ∧ H' = H.set b (.box S (putRow cs o y.cells))) := by
  intro g n a w ka s
  obtain ⟨v, he, hv⟩ := ev1 hp ka
  obtain ⟨u, hf, hu⟩ := ev1 hx ka
  cases hv
  obtain ⟨vs, ⟨fz, hw, hth⟩, hrel⟩ := s.box b S cs hb
  have hcells := hu.rcells hy1
  have hsz : u.cells.size = k := by rw [← hcells.1]; exact hyk
  have hone : ∀ v ∈ u.cells.toList, v.oneCell' = true := fun v hv => by
    obtain ⟨i, hi, hiv⟩ := List.getElem_of_mem hv
    have hi' : i < y.cells.length := by rw [hcells.1]; simpa using hi
    have h1 : u.cells[i]? = some v := by rw [← Array.getElem?_toList, List.getElem?_eq_getElem hi, hiv]
    have h2 := hcells.2 i _ v (List.getElem?_eq_getElem hi') h1
    exact h2.oneCell (List.all_eq_true.1 hy _ (List.getElem_mem hi'))
  have hrun := run_storeCells_th (P := P) b o S fz u.cells.toList 0 vs w hw hth (by have := hrel.1; simp; omega) hone
  have : (execOp a.eval ⟨dst, .store T p x, ty, pos, af, gd⟩).run P w = .ok .skip (w.setRow b (vs.toList.take o ++ u.cells.toList ++ vs.toList.drop (o + u.cells.toList.length)).toArray) := by
    simp only [Nat.add_zero] at hrun
    simp [execOp, he, hf, Instr.storeAt, Instr.sureAddr, storeVar, hs, hsz]
    rw [show vs.toList.take o ++ u.cells.toList = (List.take o vs.toList ++ u.cells.toList) from rfl] at hrun
    simp [hsz] at hrun
    rw [hrun]; rfl
  rw [this]
  refine ⟨g, .raw undef, _, .id, .raw _, ?_, rfl, rfl⟩
  refine s.turn hb (fun j hj => setRow_other w b j _ hj) (by simp) rfl rfl rfl ⟨_, ⟨fz, setRow_heap w b vs _ S fz hw, ?_⟩, hrel.putRow hcells (by omega)⟩
  have e : (vs.toList.take o ++ u.cells.toList ++ vs.toList.drop (o + u.cells.toList.length)).toArray.size = vs.size := by have := hrel.1; simp; omega
  rw [e]; exact hth

/-! ### new boxes -/
theorem step_boxI {T : TypeId} {x : Operand} {y : AV} (hx : Ev env x y) (hy1 : y.one = true ∨ ∃ cs, y = .agg cs) : AStep P ⟨dst, .box T x, ty, pos, af, gd⟩ env H (fun z H' => z = .iptr y.cells ∧ H' = H) := by
  intro g n a w ka s
  obtain ⟨v, he, hv⟩ := ev1 hx ka
  have hcells := hv.rcells hy1
  have : (execOp a.eval ⟨dst, .box T x, ty, pos, af, gd⟩).run P w = .ok (.value (.pointer (some ⟨w.heap.size, 0, none⟩))) (w.alloc (.cells v.cells T)) := by
    simp [execOp, he, Instr.box, newVar, newRow]
  rw [this]
  have s' := s.new_imm v.cells T (0, 0) v.cells.size
  have hle : g.le (g.addImm w.heap.size fun o => if o < v.cells.size then v.cells[o]? else none) := G.le_addImm (fun o u hu => by rw [s.imm_new] at hu; cases hu)
  refine ⟨_, .iptr y.cells, H, hle, ?_, s', rfl, rfl⟩
  refine .iptr y.cells _ 0 (fun i => v.cells.getD i undef) (fun i hi => ?_) (fun i c hc => ?_)
  · have hi' : i < v.cells.size := by rw [← hcells.1]; exact hi
    rw [G.imm_addImm]; simp [hi']
  · obtain ⟨u, hu, hr⟩ := hcells.at hc
    have : v.cells.getD i undef = u := by simp [hu]
    rw [this]; exact hr.mono hle
theorem step_alloc {T : TypeId} {z : Value} {cs : List AV} (hz : ∀ w, (zeroValue T).run P w = .ok z w) (hc : ∀ g, RelCells g cs z.cells) :
    AStep P ⟨dst, .alloc T, ty, pos, af, gd⟩ env H (fun y H' => ∃ b, H.objs b = none ∧ y = .ptr (some ⟨b, 0, none⟩) ∧ H' = H.set b (.box T cs)) := by
  intro g n a w ka s
  have : (execOp a.eval ⟨dst, .alloc T, ty, pos, af, gd⟩).run P w = .ok (.value (.pointer (some ⟨w.heap.size, 0, none⟩))) (w.alloc (.cells z.cells T)) := by
    simp [execOp, Instr.alloc, hz, newVar, newRow]
  rw [this]
  exact ⟨g, _, _, .id, .ptr _, s.new_box T (hc g), w.heap.size, s.new_none, rfl, rfl⟩

/-! ### places -/
theorem run_fieldAt {S : TypeId} {fs : Array Field} {f : Nat} {fd : Field} {k : Nat} {b o : Nat} (hu : P.underlying S = some (.struct fs)) (hf : fs[f]? = some fd) (hs : ∀ w, (sizeOf fd.type).run P w = .ok (k + 1) w) (w : World) :
    (Instr.fieldAt S (.pointer (some ⟨b, o, none⟩)) f).run P w = .ok (.pointer (some ⟨b, o + fd.offset, none⟩)) w := by
  simp [Instr.fieldAt, underlying, hu, hf, Instr.sureAddr, fieldPlace, hs, Addr.add_off]
theorem pure_fieldI {S : TypeId} {fs : Array Field} {f : Nat} {fd : Field} {k : Nat} {x : Operand} {cs : List AV} (hu : P.underlying S = some (.struct fs)) (hf : fs[f]? = some fd) (hs : ∀ w, (sizeOf fd.type).run P w = .ok (k + 1) w)
    (hx : Ev env x (.iptr cs)) : APure P ⟨dst, .fieldAddr S x f, ty, pos, af, gd⟩ env (.iptr (cs.drop fd.offset)) := by
  intro g n a ka
  obtain ⟨v, he, hv⟩ := ev1 hx ka
  cases hv with
  | iptr cs b off vs hi hr =>
    refine ⟨_, .iptr _ b (off + fd.offset) (fun i => vs (fd.offset + i)) (fun i h => ?_) (fun i c h => ?_), fun w _ => by simp [execOp, he, run_fieldAt hu hf hs]⟩
    · rw [Nat.add_assoc]; exact hi _ (by simp at h; omega)
    · rw [List.getElem?_drop] at h; exact hr _ _ h
theorem pure_field {S : TypeId} {fs : Array Field} {f : Nat} {fd : Field} {k : Nat} {x : Operand} {b o : Nat} (hu : P.underlying S = some (.struct fs)) (hf : fs[f]? = some fd) (hs : ∀ w, (sizeOf fd.type).run P w = .ok (k + 1) w)
    (hx : Ev env x (.ptr (some ⟨b, o, none⟩))) : APure P ⟨dst, .fieldAddr S x f, ty, pos, af, gd⟩ env (.ptr (some ⟨b, o + fd.offset, none⟩)) := by
  intro g n a ka
  obtain ⟨v, he, hv⟩ := ev1 hx ka
  cases hv
  exact ⟨_, .ptr _, fun w _ => by simp [execOp, he, run_fieldAt hu hf hs]⟩
theorem pure_indexS {T E : TypeId} {x i : Operand} {sz : Nat} {xs : List AV} {tl : Tail} {k : IntKind} {m : Int} {e : AV} (hu : P.underlying T = some (.slice E)) (hs : ∀ w, (sizeOf E).run P w = .ok sz w)
    (hx : Ev env x (.slice sz xs tl)) (hi : Ev env i (.int k m)) (h0 : 0 ≤ m) (he : xs[m.toNat]? = some e) : APure P ⟨dst, .indexAddr T x i, ty, pos, af, gd⟩ env (.iptr e.cells) := by
  intro g n a ka
  obtain ⟨v, hev, hv⟩ := ev1 hx ka
  obtain ⟨u, hfu, hu'⟩ := ev1 hi ka
  cases hu'
  have hlt : m.toNat < xs.length := (List.getElem?_eq_some_iff.1 he).1
  cases hv with
  | nilSlice => simp at hlt
  | voidSlice => simp at hlt
  | slice sz xs tl b off cap vs hsz himm hr hlen hcap htl =>
    have hes : e.cells.length = sz := (hsz e (List.mem_of_getElem? he)).1
    have hmul : m.toNat * sz + sz ≤ xs.length * sz := by
      have := Nat.mul_le_mul_right sz (show m.toNat + 1 ≤ xs.length from hlt)
      rwa [Nat.add_mul, Nat.one_mul] at this
    refine ⟨_, .iptr e.cells b (off + m.toNat * sz) (fun j => vs (m.toNat * sz + j)) (fun j hj => ?_) (fun j c hc => hr _ j e c he hc), fun w _ => ?_⟩
    · rw [Nat.add_assoc]; exact himm _ (by omega)
    · have hm : m < (xs.length : Int) := by omega
      simp [execOp, hev, hfu, Instr.indexAt, asIntOf, underlying, hu, hs, h0, hm, Addr.add_off]
theorem pure_indexM {T E : TypeId} {x i : Operand} {sz l c b o : Nat} {k : IntKind} {m : Int} (hu : P.underlying T = some (.slice E)) (hs : ∀ w, (sizeOf E).run P w = .ok sz w)
    (hx : Ev env x (.mslice (some ⟨b, o, none⟩) l c)) (hi : Ev env i (.int k m)) (h0 : 0 ≤ m) (hm : m < l) : APure P ⟨dst, .indexAddr T x i, ty, pos, af, gd⟩ env (.ptr (some ⟨b, o + m.toNat * sz, none⟩)) := by
  intro g n a ka
  obtain ⟨v, hev, hv⟩ := ev1 hx ka
  obtain ⟨u, hfu, hu'⟩ := ev1 hi ka
  cases hu'; cases hv
  exact ⟨_, .ptr _, fun w _ => by simp [execOp, hev, hfu, Instr.indexAt, asIntOf, underlying, hu, hs, h0, hm, Addr.add_off]⟩
theorem pure_extract {x : Operand} {vs : List AV} {i : Nat} {y : AV} (hx : Ev env x (.tuple vs)) (hy : vs[i]? = some y) : APure P ⟨dst, .extract x i, ty, pos, af, gd⟩ env y := by
  intro g n a ka
  obtain ⟨v, hev, hv⟩ := ev1 hx ka
  cases hv with
  | tuple cs us hn hr =>
    have hlt : i < us.size := by rw [← hn]; exact (List.getElem?_eq_some_iff.1 hy).1
    exact ⟨us[i], hr i y _ hy (Array.getElem?_eq_getElem hlt), fun w _ => by simp [execOp, hev, Instr.extract, hlt]⟩
/-! ### calls -/
inductive Evs (env : Env) : List Operand → List AV → Prop
  | nil : Evs env [] []
  | cons {o x os xs} (h : Ev env o x) (k : Evs env os xs) : Evs env (o :: os) (x :: xs)
theorem Evs.rel {env : Env} {os : List Operand} {xs : List AV} (h : Evs env os xs) {g : G} {n : Fr} {a : Act} (k : RelAct g n env a) : RelVs g xs (os.map a.eval) := by
  induction h with
  | nil => exact ⟨rfl, fun i x v hx _ => by simp at hx⟩
  | cons h _ ih =>
    refine ⟨by simp [ih.1], fun i x v hx hv => ?_⟩
    cases i with
    | zero => simp at hx hv; subst hx; subst hv; exact h.rel k
    | succ i => simp at hx hv; exact ih.2 i x v hx (by simpa using hv)
theorem RelVs.append {g : G} {xs ys : List AV} {vs us : List Value} (h : RelVs g xs vs) (k : RelVs g ys us) : RelVs g (xs ++ ys) (vs ++ us) := by
  refine ⟨by simp [h.1, k.1], fun i x v hx hv => ?_⟩
  rw [List.getElem?_append] at hx hv
  rw [h.1] at hx
  split at hx
  · rename_i hlt; rw [if_pos hlt] at hv; exact h.2 i x v hx hv
  · rename_i hlt; rw [if_neg hlt] at hv; exact k.2 _ x v hx hv
theorem step_call {f : FuncId} {fo : Operand} {cap : List AV} {os : Array Operand} {xs : List AV} {ts : Array TypeId} {R : AV → Heap → Prop} (hent : ∀ args w, (callFunc f args).run P w = .ok (.enter f args) w)
    (hf : Ev env fo (.func f cap)) (ha : Evs env os.toList xs) (h : ACall P f (xs ++ cap) H R) : AStep P ⟨dst, .call { callee := .value fo, args := os, argTypes := ts }, ty, pos, af, gd⟩ env H R := by
  intro g n a w ka s
  obtain ⟨v, hev, hv⟩ := ev1 hf ka
  cases hv with
  | func f cap us hn hr =>
    have hargs := (ha.rel ka).append (show RelVs g cap us.toList from ⟨by simpa using hn, fun i c v hc hv => hr i c v hc (by simpa using hv)⟩)
    have : (execOp a.eval ⟨dst, .call { callee := .value fo, args := os, argTypes := ts }, ty, pos, af, gd⟩).run P w = .ok (.enter f (os.map a.eval ++ us)) w := by
      simp [execOp, resolve, hev, Deferred.ofValue, invoke, hent]
    rw [this]
    have hc := h g _ w hargs s
    have e : (List.map a.eval os.toList ++ us.toList).toArray = os.map a.eval ++ us := by
      apply Array.ext'; simp
    rw [e] at hc
    exact hc
theorem step_call0 {f : FuncId} {os : Array Operand} {xs : List AV} {ts : Array TypeId} {R : AV → Heap → Prop} (hent : ∀ args w, (callFunc f args).run P w = .ok (.enter f args) w)
    (ha : Evs env os.toList xs) (h : ACall P f xs H R) : AStep P ⟨dst, .call { callee := .value (.func f), args := os, argTypes := ts }, ty, pos, af, gd⟩ env H R :=
  step_call hent (.func f) ha (by simpa using h)
end

end Go.Proofs.YthhcdmmihjhipaaGreatDoor

namespace Go.Proofs.YthhcdmmihjhipaaGreatDoor
open Go Go.RowKit

section
variable {P : Program} {env : Env} {H : Heap} {dst : Option Tmp} {ty : TypeId} {pos : String} {af : Array Edge} {gd : Option (Nat × Bool)}

/-! ### put together -/
def fillA (place : Nat → Option (Nat × Nat)) : List AV → List (Nat × AV) → Option (List AV)
  | cs, [] => some cs
  | cs, (i, x) :: rest =>
    match place i with
    | none => none
    | some (off, size) => if x.cells.length = size ∧ off + x.cells.length ≤ cs.length then fillA place (putRow cs off x.cells) rest else none
theorem foldl_set (off : Nat) : ∀ (us : List Value) (k : Nat) (cs : Array Value), off + k + us.length ≤ cs.size →
    ((us.zipIdx k).foldl (fun cs (c, j) => cs.setIfInBounds (off + j) c) cs) = (cs.toList.take (off + k) ++ us ++ cs.toList.drop (off + k + us.length)).toArray
  | [], k, cs, _ => by simp
  | u :: us, k, cs, h => by
    simp only [List.length_cons] at h
    rw [List.zipIdx_cons, List.foldl_cons, foldl_set off us (k + 1) _ (by simp; omega)]
    apply congrArg
    apply List.ext_getElem?
    intro i
    have e1 := row_put_get ((cs.setIfInBounds (off + k) u).toList) (off + (k + 1)) us (by simp; omega) i
    have e2 := row_put_get cs.toList (off + k) (u :: us) (by simp; omega) i
    rw [e1]
    rw [e2]
    simp only [List.length_cons, Array.getElem?_toList, Array.getElem?_setIfInBounds]
    by_cases h1 : i < off + k
    · rw [if_neg (by omega), if_neg (by omega), if_neg (by omega)]
    · by_cases h2 : i = off + k
      · subst h2
        rw [if_neg (by omega), if_pos (by omega), if_pos (by omega)]
        simp
      · by_cases h3 : i < off + (k + 1) + us.length
        · rw [if_pos (by omega), if_pos (by omega), show i - (off + k) = (i - (off + (k + 1))) + 1 by omega, List.getElem?_cons_succ]
        · rw [if_neg (by omega), if_neg (by omega), if_neg (by omega)]
theorem RelCells.fill {g : G} {place : Nat → Option (Nat × Nat)} : ∀ {ps : List (Nat × AV)} {qs : List (Nat × Value)} {cs ds : List AV} {vs : Array Value}, RelCells g cs vs →
    ps.length = qs.length → (∀ (i : Nat) p q, ps[i]? = some p → qs[i]? = some q → p.1 = q.1 ∧ RelCells g p.2.cells q.2.cells) → fillA place cs ps = some ds → ∃ us, Instr.fill place vs qs = some us ∧ RelCells g ds us
  | [], [], cs, ds, vs, h, _, _, hf => by simp only [fillA, Option.some.injEq] at hf; subst hf; exact ⟨vs, rfl, h⟩
  | (i, x) :: ps, (j, v) :: qs, cs, ds, vs, h, hl, hr, hf => by
    obtain ⟨hij, hcv⟩ := hr 0 (i, x) (j, v) rfl rfl
    simp only at hij hcv
    subst hij
    simp only [fillA] at hf
    simp only [Instr.fill]
    cases hp : place i with
    | none => rw [hp] at hf; cases hf
    | some os =>
      obtain ⟨off, size⟩ := os
      rw [hp] at hf
      simp only at hf
      split at hf
      · rename_i hc
        have e1 := hcv.1
        have e2 := h.1
        have hfold := foldl_set off v.cells.toList 0 vs (by simp; omega)
        simp only [Nat.add_zero] at hfold
        have e3 : v.cells.zipIdx.foldl (fun cs (c, j) => cs.setIfInBounds (off + j) c) vs = (vs.toList.take off ++ v.cells.toList ++ vs.toList.drop (off + v.cells.toList.length)).toArray := by
          rw [← hfold, ← Array.foldl_toList, Array.toList_zipIdx]
        have hnot : ¬(v.cells.size ≠ size ∨ off + v.cells.size > vs.size) := by omega
        obtain ⟨us, h1, h2⟩ := RelCells.fill (ps := ps) (qs := qs) (h.putRow hcv (by omega)) (by simpa using hl) (fun k p q hpk hqk => hr (k + 1) p q hpk hqk) hf
        refine ⟨us, ?_, h2⟩
        simp only [e3]
        rw [if_neg (by simpa using hnot)]
        exact h1
      · cases hf

inductive Parts (env : Env) : List (Nat × Operand) → List (Nat × AV) → Prop
  | nil : Parts env [] []
  | cons {i o x ps qs} (h : Ev env o x) (h1 : x.one = true ∨ ∃ cs, x = .agg cs) (k : Parts env ps qs) : Parts env ((i, o) :: ps) ((i, x) :: qs)
theorem Parts.rel {ps : List (Nat × Operand)} {qs : List (Nat × AV)} (h : Parts env ps qs) {g : G} {n : Fr} {a : Act} (k : RelAct g n env a) :
    qs.length = (ps.map fun p => (p.1, a.eval p.2)).length ∧ ∀ (i : Nat) p q, qs[i]? = some p → (ps.map fun p => (p.1, a.eval p.2))[i]? = some q → p.1 = q.1 ∧ RelCells g p.2.cells q.2.cells := by
  induction h with
  | nil => exact ⟨rfl, fun i p q hp _ => by simp at hp⟩
  | cons h h1 _ ih =>
    refine ⟨by simp [ih.1], fun i p q hp hq => ?_⟩
    cases i with
    | zero => simp at hp hq; subst hp; subst hq; exact ⟨rfl, (h.rel k).rcells h1⟩
    | succ i => simp only [List.getElem?_cons_succ, List.map_cons] at hp hq; exact ih.2 i p q hp hq

theorem mapM_places {fs : Array Field} {places : List (Nat × Nat)} (hp : fs.toList.map (·.offset) = places.map (·.1)) (hs : ∀ (i : Nat) f p, fs[i]? = some f → places[i]? = some p → ∀ w, (sizeOf f.type).run P w = .ok p.2 w) (w : World) :
    (fs.mapM fun f => Prod.mk f.offset <$> sizeOf f.type : Sem (Array (Nat × Nat))).run P w = .ok places.toArray w := by
  rw [Array.mapM_eq_mapM_toList, Sem.run_map]
  have key : ∀ (l : List Field) (ps : List (Nat × Nat)), l.map (·.offset) = ps.map (·.1) → (∀ (i : Nat) f p, l[i]? = some f → ps[i]? = some p → ∀ w, (sizeOf f.type).run P w = .ok p.2 w) →
      (l.mapM fun f => Prod.mk f.offset <$> sizeOf f.type : Sem (List (Nat × Nat))).run P w = .ok ps w := by
    intro l
    induction l with
    | nil => intro ps h _; cases ps with
      | nil => simp
      | cons => simp at h
    | cons f l ih =>
      intro ps h hs
      cases ps with
      | nil => simp at h
      | cons p ps =>
        simp only [List.map_cons, List.cons.injEq] at h
        rw [List.mapM_cons, Sem.run_bind, Sem.run_map, hs 0 f p rfl rfl]
        simp only [Result.andThen_ok]
        rw [Sem.run_bind, ih ps h.2 (fun i f' p' hf hp => hs (i + 1) f' p' hf hp)]
        simp [h.1]
  rw [key fs.toList places hp (fun i f p hf hp => hs i f p (by simpa using hf) hp)]
  rfl
theorem pure_build {T : TypeId} {fs : Array Field} {ops : List (Nat × Operand)} {qs : List (Nat × AV)} {z : Value} {zs cs : List AV} (places : List (Nat × Nat)) (hu : P.underlying T = some (.struct fs)) (hz : ∀ w, (zeroValue T).run P w = .ok z w)
    (hzr : ∀ g, RelCells g zs z.cells) (hp : fs.toList.map (·.offset) = places.map (·.1)) (hs : ∀ (i : Nat) f p, fs[i]? = some f → places[i]? = some p → ∀ w, (sizeOf f.type).run P w = .ok p.2 w)
    (hq : Parts env ops qs) (hf : fillA (places[·]?) zs qs = some cs) : APure P ⟨dst, .build T ops.toArray, ty, pos, af, gd⟩ env (.agg cs) := by
  intro g n a ka
  obtain ⟨h1, h2⟩ := hq.rel ka
  obtain ⟨us, h3, h4⟩ := (hzr g).fill h1 h2 hf
  refine ⟨.agg us, .agg cs us h4.1 h4.2, fun w _ => ?_⟩

  simp [execOp, Instr.build, hz, underlying, hu, mapM_places hp hs, h3]

theorem flat_get {sz : Nat} : ∀ {xs : List AV}, (∀ x, x ∈ xs → x.cells.length = sz) → ∀ {i j : Nat} {x c : AV}, xs[i]? = some x → x.cells[j]? = some c → (xs.flatMap AV.cells)[i * sz + j]? = some c
  | [], _, i, j, x, c, hx, _ => by simp at hx
  | y :: ys, h, i, j, x, c, hx, hc => by
    have hy := h y (by simp)
    rw [List.flatMap_cons]
    cases i with
    | zero =>
      simp at hx; subst hx
      rw [Nat.zero_mul, Nat.zero_add, List.getElem?_append_left (List.getElem?_eq_some_iff.1 hc).1]; exact hc
    | succ i =>
      simp only [List.getElem?_cons_succ] at hx
      rw [List.getElem?_append_right (by rw [hy, Nat.add_mul]; omega), hy, show (i + 1) * sz + j - sz = i * sz + j by rw [Nat.add_mul]; omega]
      exact flat_get (fun z hz => h z (by simp [hz])) hx hc
theorem flat_length {sz : Nat} : ∀ {xs : List AV}, (∀ x, x ∈ xs → x.cells.length = sz) → (xs.flatMap AV.cells).length = xs.length * sz
  | [], _ => by simp
  | y :: ys, h => by
    rw [List.flatMap_cons, List.length_append, h y (by simp), flat_length (fun z hz => h z (by simp [hz])), List.length_cons, Nat.add_mul]; omega
theorem RelV.of_row {g : G} {sz : Nat} {xs : List AV} {tl : Tail} {b off cap : Nat} {vs : Nat → Value} {us : Array Value} (hrow : ∀ x, x ∈ xs → x.row sz) (hr : RelCells g (xs.flatMap AV.cells) us)
    (hv : ∀ i u, us[i]? = some u → vs i = u) (hi : ∀ i, i < xs.length * sz → g.imm b (off + i) = some (vs i)) (hlen : xs.length ≤ cap) (hcap : cap ≤ maxLen) (htl : TailOK g tl b (off + xs.length * sz) ((cap - xs.length) * sz)) :
    RelV g (.slice sz xs tl) (.slice (some ⟨b, off, none⟩) xs.length cap) := by
  refine .slice sz xs tl b off cap vs hrow hi (fun i j x c hx hc => ?_) hlen hcap htl
  obtain ⟨u, hu, hru⟩ := hr.at (flat_get (fun z hz => (hrow z hz).1) hx hc)
  rw [hv _ u hu]; exact hru

theorem step_buildSlice {T E : TypeId} {len sz : Nat} {ops : List (Nat × Operand)} {qs : List (Nat × AV)} {z : Value} {zs xs : List AV} (hu : P.underlying T = some (.slice E)) (hs : ∀ w, (sizeOf E).run P w = .ok sz w)
    (hz : ∀ w, (zeroValue E).run P w = .ok z w) (hzr : ∀ g, RelCells g zs ((Array.range (len * sz)).map (z.cells[· % z.cells.size]!))) (hbig : Nat.ble (len * sz) 16777216 = true) (hbig' : Nat.ble len 16777216 = true) (hq : Parts env ops qs) (hrow : ∀ x, x ∈ xs → x.row sz)
    (hlen : xs.length = len) (hf : fillA (fun i => some (i * sz, sz)) zs qs = some (xs.flatMap AV.cells)) :
    AStep P ⟨dst, .buildSlice T len ops.toArray, ty, pos, af, gd⟩ env H (fun y H' => y = .slice sz xs .full ∧ H' = H) := by
  intro g n a w ka s
  obtain ⟨h1, h2⟩ := hq.rel ka
  obtain ⟨us, h3, h4⟩ := (hzr g).fill h1 h2 hf
  have hus : us.size = xs.length * sz := by rw [← h4.1]; exact flat_length (fun x hx => (hrow x hx).1)
  have hbig := Nat.le_of_ble_eq_true hbig
  have hbig' := Nat.le_of_ble_eq_true hbig'
  have hcap : xs.length ≤ maxLen := by unfold maxLen; omega
  have hrun : (execOp a.eval ⟨dst, .buildSlice T len ops.toArray, ty, pos, af, gd⟩).run P w = .ok (.value (.slice (some ⟨w.heap.size, 0, none⟩) len len)) (w.alloc (.cells us E)) := by
    have e1 : ¬ (2 ^ 24 < len * sz) := by simpa using hbig
    have h3' : Instr.fill (fun i => some (i * sz, sz)) ((Array.range (len * sz)).map (z.cells[· % z.cells.size]!)) (ops.map fun p => (p.1, a.eval p.2)) = some us := h3
    simp only [execOp, Instr.buildSlice]
    simp [underlying, hu, hs]
    rw [if_neg (by simpa using e1)]
    by_cases e : len * sz = 0
    · rw [if_pos e]
      have e2 : (Array.map (fun _ => (default : Value)) (Array.range (len * sz))) = (Array.range (len * sz)).map (z.cells[· % z.cells.size]!) := by rw [e]; simp
      rw [e2, h3']
      simp [newRow]
    · rw [if_neg e, hz]
      simp [h3', newRow]
  rw [hrun]
  have s' := s.new_imm us E (0, 0) us.size
  have hle : g.le (g.addImm w.heap.size fun o => if o < us.size then us[o]? else none) := G.le_addImm (fun o u hu => by rw [s.imm_new] at hu; cases hu)
  refine ⟨_, .slice sz xs .full, H, hle, ?_, s', rfl, rfl⟩
  subst hlen
  refine RelV.of_row (us := us) (vs := fun i => us.getD i undef) hrow (h4.mono hle) (fun i u hi => by simp [hi]) (fun i hi => ?_) (Nat.le_refl _) hcap (by show (xs.length - xs.length) * sz = 0; simp)
  rw [G.imm_addImm]; simp [hus, hi]
end

end Go.Proofs.YthhcdmmihjhipaaGreatDoor

namespace Go.Proofs.YthhcdmmihjhipaaGreatDoor
open Go Go.RowKit

section
variable {P : Program} {env : Env} {H : Heap} {dst : Option Tmp} {ty : TypeId} {pos : String} {af : Array Edge} {gd : Option (Nat × Bool)}

inductive OptEv (env : Env) : Option Operand → Option Nat → Prop
  | no : OptEv env none none
  | yes (o k m) (h : Ev env o (.int k m)) (h0 : 0 ≤ m) : OptEv env (some o) (some m.toNat)
def OptIs (r : Option Nat) (o : Option Value) : Prop := match r with | none => o = none | some m => ∃ k, o = some (.int k (m : Int))
theorem OptEv.spec {o : Option Operand} {r : Option Nat} (h : OptEv env o r) {g : G} {n : Fr} {a : Act} (ka : RelAct g n env a) : OptIs r (o.map a.eval) := by
  cases h with
  | no => rfl
  | yes o k m h h0 =>
    obtain ⟨v, he, hv⟩ := ev1 h ka
    cases hv
    exact ⟨k, by simp [he]; omega⟩
theorem run_bounds {len cap : Nat} {lo hi : Option Value} {l h : Option Nat} (hlo : OptIs l lo) (hhi : OptIs h hi)
    (h1 : l.getD 0 ≤ h.getD len) (h2 : h.getD len ≤ cap) (w : World) : (Instr.sliceBounds true len cap lo hi none).run P w = .ok (l.getD 0, h.getD len, cap) w := by
  cases h with
  | none =>
    simp only [OptIs] at hhi; subst hhi
    cases l with
    | none => simp only [OptIs] at hlo; subst hlo; simp [Instr.sliceBounds]
    | some l =>
      obtain ⟨k, rfl⟩ := hlo
      simp only [Option.getD_some, Option.getD_none] at h1
      simp [Instr.sliceBounds, Instr.sliceBound, asIntOf, h1]
  | some h =>
    obtain ⟨k, rfl⟩ := hhi
    simp only [Option.getD_some] at h2
    cases l with
    | none => simp only [OptIs] at hlo; subst hlo; simp [Instr.sliceBounds, Instr.sliceBound, asIntOf, h2]
    | some l =>
      obtain ⟨k', rfl⟩ := hlo
      simp only [Option.getD_some] at h1
      simp [Instr.sliceBounds, Instr.sliceBound, asIntOf, h1, h2]
def pieceTail : Option Nat → Tail → Tail
  | none, tl => tl
  | some _, _ => .shared
theorem pure_slice {T E : TypeId} {x : Operand} {lo hi : Option Operand} {l h : Option Nat} {sz : Nat} {xs : List AV} {tl : Tail} (hu : P.underlying T = some (.slice E)) (hs : ∀ w, (sizeOf E).run P w = .ok sz w)
    (hx : Ev env x (.slice sz xs tl)) (hlo : OptEv env lo l) (hhi : OptEv env hi h) (h1 : l.getD 0 ≤ h.getD xs.length) (h2 : h.getD xs.length ≤ xs.length) :
    APure P ⟨dst, .slice T x lo hi none, ty, pos, af, gd⟩ env (.slice sz ((xs.take (h.getD xs.length)).drop (l.getD 0)) (pieceTail h tl)) := by
  intro g n a ka
  obtain ⟨v, he, hv⟩ := ev1 hx ka
  have slo := hlo.spec ka
  have shi := hhi.spec ka
  cases hv with
  | nilSlice =>
    simp only [List.length_nil] at h1 h2
    have e1 : h.getD 0 = 0 := by omega
    have e2 : l.getD 0 = 0 := by omega
    have hb := run_bounds (P := P) (len := 0) (cap := 0) slo shi h1 h2
    refine ⟨.slice none 0 0, by simp only [List.take_nil, List.drop_nil]; exact .nilSlice _ _, fun w _ => ?_⟩
    simp [execOp, he, Instr.sliceAt, Instr.slice, underlying, hu, hs, hb w, e1, e2]
  | voidSlice _ a0 =>
    simp only [List.length_nil] at h1 h2
    have e1 : h.getD 0 = 0 := by omega
    have e2 : l.getD 0 = 0 := by omega
    have hb := run_bounds (P := P) (len := 0) (cap := 0) slo shi h1 h2
    refine ⟨.slice (some a0) 0 0, by simp only [List.take_nil, List.drop_nil]; cases h <;> exact .voidSlice _ _, fun w _ => ?_⟩
    simp [execOp, he, Instr.sliceAt, Instr.slice, underlying, hu, hs, hb w, e1, e2]
  | slice sz xs tl b off cap vs hsz himm hr hlen hcap htl =>
    have hb := run_bounds (P := P) (len := xs.length) (cap := cap) slo shi h1 (by omega)
    generalize hL : l.getD 0 = L at *
    generalize hH : h.getD xs.length = B at *
    have hlen' : ((xs.take B).drop L).length = B - L := by simp; omega
    have hmul : ∀ i, i < (B - L) * sz → L * sz + i < xs.length * sz := fun i hi => by
      have h3 : L * sz + (B - L) * sz = B * sz := by rw [← Nat.add_mul]; congr 1; omega
      have h4 := Nat.mul_le_mul_right sz h2
      omega
    have hrow : ∀ x, x ∈ (xs.take B).drop L → x.row sz := fun x hx => hsz x (List.mem_of_mem_take (List.mem_of_mem_drop hx))
    have hrel : ∀ (i j : Nat) x c, ((xs.take B).drop L)[i]? = some x → x.cells[j]? = some c → RelV g c (vs (L * sz + (i * sz + j))) := fun i j x c hx hc => by
      rw [List.getElem?_drop, List.getElem?_take] at hx
      split at hx
      · have := hr (L + i) j x c hx hc
        rwa [Nat.add_mul, Nat.add_assoc] at this
      · cases hx
    by_cases hm : cap = L
    · have hBL : B - L = 0 := by omega
      have hnil : (xs.take B).drop L = [] := List.eq_nil_of_length_eq_zero (by omega)
      refine ⟨.slice (some ⟨b, off, none⟩) (B - L) (cap - L), ?_, fun w _ => by have hbw := hb w; rw [hm] at hbw; simp [execOp, he, Instr.sliceAt, Instr.slice, underlying, hu, hs, hbw, hm]⟩
      rw [hnil, hBL]
      have := RelV.slice (g := g) sz [] (pieceTail h tl) b off (cap - L) vs (fun x hx => by simp at hx) (fun i hi => by simp at hi) (fun i j x c hx _ => by simp at hx) (Nat.zero_le _) (by omega) (by
        have e0 : (cap - L - ([] : List AV).length) * sz = 0 := by rw [show cap - L - ([] : List AV).length = 0 by simp; omega, Nat.zero_mul]
        rw [e0]
        cases h with
        | none => cases tl with
          | shared => trivial
          | full => rfl
          | own t => exact ⟨htl.1, .inl rfl⟩
        | some _ => trivial)
      simpa using this
    · refine ⟨.slice (some ⟨b, off + L * sz, none⟩) (B - L) (cap - L), ?_, fun w _ => by simp [execOp, he, Instr.sliceAt, Instr.slice, underlying, hu, hs, hb w, hm, Addr.add_off]⟩
      have := RelV.slice (g := g) sz ((xs.take B).drop L) (pieceTail h tl) b (off + L * sz) (cap - L) (fun i => vs (L * sz + i)) hrow (fun i hi => by
          rw [hlen'] at hi; rw [Nat.add_assoc]; exact himm _ (hmul i hi)) hrel (by omega) (by omega) (by
        cases h with
        | none =>
          simp only [Option.getD_none] at hH
          rw [hlen', ← hH, show off + L * sz + (xs.length - L) * sz = off + xs.length * sz by rw [Nat.add_assoc, ← Nat.add_mul]; congr 2; omega, show cap - L - (xs.length - L) = cap - xs.length by omega]
          exact htl
        | some _ => trivial)
      rwa [hlen'] at this

/-! ### append -/
theorem first_cells {g : G} {sz : Nat} {ys : List AV} {tl : Tail} {v : Value} (h : RelV g (.slice sz ys tl) v) (hrow : ∀ y, y ∈ ys → y.row sz) : ∃ us : Array Value, RelCells g (ys.flatMap AV.cells) us ∧ Builtin.lenOf v = (pure ys.length : Sem Nat) ∧
    ∀ w, (∀ b k u, g.imm b k = some u → w.cell? ⟨b, k, none⟩ = some u) → (Builtin.firstCells sz ys.length v).run P w = .ok us w := by
  cases h with
  | nilSlice => exact ⟨#[], RelCells.nil g, rfl, fun w _ => rfl⟩
  | voidSlice => exact ⟨#[], RelCells.nil g, rfl, fun w _ => by show (loadCells _ (([] : List AV).length * sz)).run P w = _; rw [List.length_nil, Nat.zero_mul]; rfl⟩
  | slice sz ys tl b off cap vs hsz himm hr hlen hcap htl =>
    have hl := flat_length (fun x hx => (hsz x hx).1)
    obtain ⟨h1, h2⟩ := imm_load (P := P) (g := g) (b := b) (off := off) (k := ys.length * sz) (cs := ys.flatMap AV.cells) (vs := vs) (fun i hi => himm i (by omega)) (fun i c hc => by
      have hi : i < ys.length * sz := by rw [← hl]; exact (List.getElem?_eq_some_iff.1 hc).1
      have hsz0 : 0 < sz := by
        rcases Nat.eq_zero_or_pos sz with e | e
        · subst e; simp at hi
        · exact e
      have hq : i / sz < ys.length := Nat.div_lt_of_lt_mul (by rw [Nat.mul_comm]; exact hi)
      have hx : ys[i / sz]? = some ys[i / sz] := List.getElem?_eq_getElem hq
      have hxr := (hsz _ (List.getElem_mem hq)).1
      have hc2 : ys[i / sz].cells[i % sz]? = some (ys[i / sz].cells[i % sz]'(by rw [hxr]; exact Nat.mod_lt _ hsz0)) := List.getElem?_eq_getElem _
      have := flat_get (fun x hx => (hsz x hx).1) hx hc2
      rw [Nat.mul_comm, Nat.div_add_mod] at this
      rw [this] at hc
      cases hc
      have := hr _ _ _ _ hx hc2
      rwa [Nat.mul_comm, Nat.div_add_mod] at this) (by omega)
    rw [← hl, List.take_length] at h1
    rw [← hl] at h2
    refine ⟨_, h1, rfl, fun w hw => ?_⟩
    show (loadCells ⟨b, off, none⟩ (ys.length * sz)).run P w = _
    rw [← hl]; exact h2 w hw
theorem RelCells.oneCells {g : G} {cs : List AV} {us : Array Value} (h : RelCells g cs us) (h1 : cs.all AV.one = true) : ∀ v ∈ us.toList, v.oneCell' = true := fun v hv => by
  obtain ⟨i, hi, hiv⟩ := List.getElem_of_mem hv
  have hi' : i < cs.length := by rw [h.1]; simpa using hi
  have h2 : us[i]? = some v := by rw [← Array.getElem?_toList, List.getElem?_eq_getElem hi, hiv]
  exact (h.2 i _ v (List.getElem?_eq_getElem hi') h2).oneCell (List.all_eq_true.1 h1 _ (List.getElem_mem hi'))
theorem flat_one {sz : Nat} {xs : List AV} (h : ∀ x, x ∈ xs → x.row sz) : (xs.flatMap AV.cells).all AV.one = true := by
  rw [List.all_eq_true]
  intro c hc
  obtain ⟨x, hx, hcx⟩ := List.mem_flatMap.1 hc
  exact List.all_eq_true.1 (h x hx).2 c hcx
inductive Room (H : Heap) : Tail → Heap → Prop
  | full : Room H .full H
  | own (t) (h : H.toks t = true) : Room H (.own t) (H.kill t)
theorem Room.le {tl : Tail} {H' : Heap} (h : Room H tl H') : H'.le H := by
  cases h with
  | full => exact Heap.le.refl H
  | own t _ => exact Heap.kill_le H t
theorem step_append {T T' E E' : TypeId} {x y : Operand} {sz : Nat} {xs ys : List AV} {tl tl' : Tail} {ti : TypeInfo} {z : Value} {H0 : Heap} (hu : P.underlying T = some (.slice E)) (hu' : P.underlying T' = some (.slice E'))
    (hs : ∀ w, (sizeOf E).run P w = .ok sz w) (hti : ∀ w, (typeInfo E).run P w = .ok ti w) (hz : ∀ w, (zeroValue E).run P w = .ok z w) (hzl : z.cells.size = sz) (hb0 : ti.bytes ≠ 0)
    (hx : Ev env x (.slice sz xs tl)) (hy : Ev env y (.slice sz ys tl')) (hroom : Room H tl H0) (hfit : (xs.length + ys.length) * ti.bytes ≤ 140737488355328) (hrx : ∀ x, x ∈ xs → x.row sz) (hry : ∀ y, y ∈ ys → y.row sz) :
    AStep P ⟨dst, .call { callee := .builtin .append, args := #[x, y], argTypes := #[T, T'] }, ty, pos, af, gd⟩ env H (fun r H' => ∃ t, H.toks t = false ∧ r = .slice sz (xs ++ ys) (.own t) ∧ H' = H0.live t) := by
  intro g n a w ka s
  obtain ⟨vx, hex, hvx⟩ := ev1 hx ka
  obtain ⟨vy, hey, hvy⟩ := ev1 hy ka
  obtain ⟨us, hus, hlenY, hfirst⟩ := first_cells (P := P) hvy hry
  obtain ⟨os, hos, hlenX, hfirstX⟩ := first_cells (P := P) hvx hrx
  have hsy := flat_length (fun y hy => (hry y hy).1)
  have hsx := flat_length (fun x hx => (hrx x hx).1)
  have husz : us.size = ys.length * sz := by rw [← hus.1, hsy]
  have hosz : os.size = xs.length * sz := by rw [← hos.1, hsx]
  have hfresh : H.toks g.ntok = false := by
    cases e : H.toks g.ntok with
    | false => rfl
    | true => have := s.tokLt _ e; omega
  have hall : ∀ x, x ∈ xs ++ ys → x.row sz := fun x hx => by
    rcases List.mem_append.1 hx with h | h
    · exact hrx x h
    · exact hry x h
  have hflat : (xs ++ ys).flatMap AV.cells = xs.flatMap AV.cells ++ ys.flatMap AV.cells := List.flatMap_append
  have hzeros : (do pure ((← underlying T') matches .int _) : Sem Bool).run P w = .ok false w := by simp [underlying, hu']
  -- the two ways, by what is there
  have grows : ∀ (c : Nat), (∃ p, vx = .slice p xs.length c) → c < xs.length + ys.length → YieldsTo P (fun v w' => ∃ g' r H', g.le g' ∧ RelV g' r v ∧ Sat g' H' w' ∧ ∃ t, H.toks t = false ∧ r = .slice sz (xs ++ ys) (.own t) ∧ H' = H0.live t)
      ((execOp a.eval ⟨dst, .call { callee := .builtin .append, args := #[x, y], argTypes := #[T, T'] }, ty, pos, af, gd⟩).run P w) := by
    rintro c ⟨p, hvx'⟩ hc
    have hgrow := growslice_fits (bytes := ti.bytes) hc hfit
    let nc := (Question.appendCap (xs.length + ys.length) c E).cut (w.tape w.drawn (.appendCap (xs.length + ys.length) c E))
    have hneed : xs.length + ys.length ≤ 140737488355328 := Nat.le_trans (Nat.le_mul_of_pos_right _ (Nat.pos_of_ne_zero hb0)) hfit
    have hnc : xs.length + ys.length ≤ nc ∧ nc ≤ maxLen := by
      show xs.length + ys.length ≤ xs.length + ys.length + _ % (2 ^ 63 - (xs.length + ys.length)) ∧ _
      refine ⟨Nat.le_add_right _ _, ?_⟩
      show xs.length + ys.length + w.tape w.drawn (.appendCap (xs.length + ys.length) c E) % (2 ^ 63 - (xs.length + ys.length)) ≤ maxLen
      have : w.tape w.drawn (.appendCap (xs.length + ys.length) c E) % (2 ^ 63 - (xs.length + ys.length)) < 2 ^ 63 - (xs.length + ys.length) := Nat.mod_lt _ (by omega)
      unfold maxLen
      omega
    let row : Array Value := os ++ us ++ Builtin.zeroCells z.cells (nc - (xs.length + ys.length))
    have hrow : row.size = nc * sz := by
      show (os ++ us ++ Builtin.zeroCells z.cells (nc - (xs.length + ys.length))).size = nc * sz
      simp only [Array.size_append, Builtin.zeroCells, Array.size_map, Array.size_range, hosz, husz, hzl]
      rw [← Nat.add_mul, ← Nat.add_mul]; congr 1; omega
    have hrun : (execOp a.eval ⟨dst, .call { callee := .builtin .append, args := #[x, y], argTypes := #[T, T'] }, ty, pos, af, gd⟩).run P w = .ok (.value (.slice (some ⟨w.heap.size, 0, none⟩) (xs.length + ys.length) nc)) (w.drew.alloc (.cells row E)) := by
      have i1 : ∀ w', w'.heap = w.heap → (Builtin.firstCells sz xs.length vx).run P w' = .ok os w' := fun w' hw => hfirstX w' fun b k u hu => by
        have := s.imm b k u hu
        unfold World.cell? at this ⊢; rw [hw]; exact this
      have i2 : ∀ w', w'.heap = w.heap → (Builtin.firstCells sz ys.length vy).run P w' = .ok us w' := fun w' hw => hfirst w' fun b k u hu => by
        have := s.imm b k u hu
        unfold World.cell? at this ⊢; rw [hw]; exact this
      have hforced : (Question.appendCap (xs.length + ys.length) c E).forced = false := rfl
      have hnot1 : ¬ (xs.length + ys.length ≤ c) := by omega
      have hnot2 : ¬ (Builtin.nextslicecap (xs.length + ys.length) c * ti.bytes > 2 ^ 48) := by simpa using hgrow
      subst hvx'
      have i1' := i1 w.drew rfl
      have i2' := i2 w.drew rfl
      simp only [execCall_builtin, builtin, Builtin.append_]
      simp [hex, hey, underlying, hu, hu', hs, hlenY, hnot1, hti, hb0, hforced, hz, newRow]
      rw [if_neg (by simpa using hnot2)]
      rw [i1']
      simp only [Result.andThen_ok]
      rw [i2']
      simp only [Result.andThen_ok]
      rw [← Array.append_assoc]
      rfl
    rw [hrun]
    have s1 : Sat g H0 w.drew := s.drew.weaken hroom.le
    obtain ⟨g', hle, _, htok, himm, s2⟩ := s1.new_row row E ((xs.length + ys.length) * sz) (by rw [hrow]; exact Nat.mul_le_mul_right sz hnc.1)
    refine ⟨g', _, _, hle, ?_, s2, g.ntok, hfresh, rfl, rfl⟩
    have hcells : RelCells g ((xs ++ ys).flatMap AV.cells) (os ++ us) := by rw [hflat]; exact hos.append hus
    have hlt : g.ntok < g'.ntok := by
      have := s2.tokLt g.ntok (by simp [Heap.live]); exact this
    have key := RelV.of_row (g := g') (tl := .own g.ntok) (b := w.heap.size) (off := 0) (cap := nc) (us := os ++ us) (vs := fun i => row.getD i undef) hall (hcells.mono hle) (fun i u hi => by
        have hil : i < os.size + us.size := by have := (Array.getElem?_eq_some_iff.1 hi).1; simpa using this
        show row.getD i undef = u
        have : row[i]? = some u := by
          show (os ++ us ++ _)[i]? = some u
          rw [Array.getElem?_append_left (by simpa using hil)]; exact hi
        simp [this]) (fun i hi => by
        rw [Nat.zero_add]
        have hi' : i < row.size := by
          rw [hrow]
          have := Nat.mul_le_mul_right sz hnc.1
          simp only [List.length_append] at hi; omega
        exact himm i _ (by simpa using hi) (by simp [hi'])) (by simpa using hnc.1) hnc.2 ⟨hlt, .inr (by
        rw [htok, hrow]
        simp only [List.length_append, Nat.zero_add, Option.some.injEq, Prod.mk.injEq]
        refine ⟨rfl, trivial, ?_⟩
        rw [Nat.sub_mul])⟩
    simpa using key
  -- in place
  have same : ∀ (g' : G) (w' : World) (v : Value), g.le g' → Sat g' (H0.live g.ntok) w' → RelV g' (.slice sz (xs ++ ys) (.own g.ntok)) v →
      (execOp a.eval ⟨dst, .call { callee := .builtin .append, args := #[x, y], argTypes := #[T, T'] }, ty, pos, af, gd⟩).run P w = .ok (.value v) w' →
      YieldsTo P (fun v w' => ∃ g' r H', g.le g' ∧ RelV g' r v ∧ Sat g' H' w' ∧ ∃ t, H.toks t = false ∧ r = .slice sz (xs ++ ys) (.own t) ∧ H' = H0.live t)
      ((execOp a.eval ⟨dst, .call { callee := .builtin .append, args := #[x, y], argTypes := #[T, T'] }, ty, pos, af, gd⟩).run P w) := by
    intro g' w' v hle hs' hv hrun
    rw [hrun]
    exact ⟨g', _, _, hle, hv, hs', g.ntok, hfresh, rfl, rfl⟩
  have hempty : ys = [] ∨ 0 < ys.length := by cases ys <;> simp
  cases hvx with
  | nilSlice =>
    rcases hempty with rfl | hpos
    · refine same (g.addTok none) w (.slice none 0 0) (G.le_addTok g none) (s.weaken hroom.le).retag (.nilSlice _ _) ?_
      have i2 : (Builtin.firstCells sz 0 vy).run P w = .ok us w := hfirst w s.imm
      simp only [execCall_builtin, builtin, Builtin.append_]
      simp [hex, hey, underlying, hu, hu', hs, hlenY, i2]
    · exact grows 0 ⟨none, rfl⟩ (by simpa using hpos)
  | voidSlice => cases hroom
  | slice sz xs tl b off cap vs hsz himm hr hlen hcap htl =>
    by_cases hc : cap < xs.length + ys.length
    · exact grows cap ⟨_, rfl⟩ hc
    · have hc' : xs.length + ys.length ≤ cap := by omega
      have i2 := hfirst w s.imm
      have hstore : ∀ w', (storeCells ⟨b, off + xs.length * sz, none⟩ us.toList).run P w = .ok () w' →
          (execOp a.eval ⟨dst, .call { callee := .builtin .append, args := #[x, y], argTypes := #[T, T'] }, ty, pos, af, gd⟩).run P w = .ok (.value (.slice (some ⟨b, off, none⟩) (xs.length + ys.length) cap)) w' := fun w' hw' => by
        simp only [execCall_builtin, builtin, Builtin.append_]
        simp [hex, hey, underlying, hu, hu', hs, hlenY, hc', i2, Addr.add_off]
        rw [hw']; rfl
      have hrel : ∀ (g' : G) (t : Nat), g.le g' → (∀ o v, us[o]? = some v → g'.imm b (off + xs.length * sz + o) = some v) → TailOK g' (.own t) b (off + (xs ++ ys).length * sz) ((cap - (xs ++ ys).length) * sz) →
          RelV g' (.slice sz (xs ++ ys) (.own t)) (.slice (some ⟨b, off, none⟩) (xs.length + ys.length) cap) := fun g' t hle hi ht => by
        have key := RelV.slice (g := g') sz (xs ++ ys) (.own t) b off cap (fun i => if i < xs.length * sz then vs i else us.getD (i - xs.length * sz) undef) hall (fun i hi' => by
            by_cases h : i < xs.length * sz
            · simp only [h, if_true]; exact hle.imm _ _ _ (himm i h)
            · simp only [h, if_false]
              have hlt : i - xs.length * sz < us.size := by
                rw [husz]; simp only [List.length_append, Nat.add_mul] at hi'; omega
              have := hi (i - xs.length * sz) us[i - xs.length * sz] (Array.getElem?_eq_getElem hlt)
              rw [show off + i = off + xs.length * sz + (i - xs.length * sz) by omega, this]
              simp [hlt]) (fun i j x c hx hc => ?_) (by simpa using hc') hcap ht
        · simpa using key
        · rw [List.getElem?_append] at hx
          split at hx
          · rename_i hlt
            have hj : j < sz := by rw [← (hsz x (List.mem_of_getElem? hx)).1]; exact (List.getElem?_eq_some_iff.1 hc).1
            have : i * sz + j < xs.length * sz := by
              have := Nat.mul_le_mul_right sz (show i + 1 ≤ xs.length from hlt)
              rw [Nat.add_mul] at this; omega
            rw [if_pos this]; exact (hr i j x c hx hc).mono hle
          · rename_i hlt
            have hge : xs.length * sz ≤ i * sz := Nat.mul_le_mul_right sz (by omega)
            rw [if_neg (by omega)]
            obtain ⟨u, hu1, hu2⟩ := hus.at (flat_get (fun z hz => (hry z hz).1) hx hc)
            have e : i * sz + j - xs.length * sz = (i - xs.length) * sz + j := by rw [Nat.sub_mul]; omega
            rw [e]
            have : us.getD ((i - xs.length) * sz + j) undef = u := by simp [hu1]
            rw [this]; exact hu2.mono hle
      have hnoStore : us.size = 0 → (storeCells ⟨b, off + xs.length * sz, none⟩ us.toList).run P w = .ok () w := fun h0 => by
        have : us.toList = [] := by simpa using h0
        rw [this]; rfl
      have hzero : us.size = 0 → (g.addTok none).le (g.addTok none) → YieldsTo P (fun v w' => ∃ g' r H', g.le g' ∧ RelV g' r v ∧ Sat g' H' w' ∧ ∃ t, H.toks t = false ∧ r = .slice sz (xs ++ ys) (.own t) ∧ H' = H0.live t)
          ((execOp a.eval ⟨dst, .call { callee := .builtin .append, args := #[x, y], argTypes := #[T, T'] }, ty, pos, af, gd⟩).run P w) ∨ (cap - (xs ++ ys).length) * sz ≠ 0 := fun h0 _ => by
        by_cases hfull : (cap - (xs ++ ys).length) * sz = 0
        · left
          refine same (g.addTok none) w _ (G.le_addTok g none) (s.weaken hroom.le).retag (hrel _ _ (G.le_addTok g none) (fun o v ho => by rw [Array.getElem?_eq_none (by omega)] at ho; cases ho) ⟨Nat.lt_succ_self _, .inl hfull⟩) (hstore w (hnoStore h0))
        · exact .inr hfull
      cases hroom with
      | full =>
        have h0 : (cap - xs.length) * sz = 0 := htl
        have hz1 : us.size = 0 := by
          rw [husz]
          have : ys.length * sz ≤ (cap - xs.length) * sz := Nat.mul_le_mul_right sz (by omega)
          omega
        rcases hzero hz1 (G.le.refl _) with h | h
        · exact h
        · exfalso; apply h
          have : (cap - (xs ++ ys).length) * sz ≤ (cap - xs.length) * sz := Nat.mul_le_mul_right sz (by simp; omega)
          omega
      | own t ht =>
        obtain ⟨htl1, htl2⟩ := htl
        by_cases hz0 : (cap - xs.length) * sz = 0
        · have hz1 : us.size = 0 := by
            rw [husz]
            have : ys.length * sz ≤ (cap - xs.length) * sz := Nat.mul_le_mul_right sz (by omega)
            omega
          rcases hzero hz1 (G.le.refl _) with h | h
          · exact h
          · exfalso; apply h
            have : (cap - (xs ++ ys).length) * sz ≤ (cap - xs.length) * sz := Nat.mul_le_mul_right sz (by simp; omega)
            omega
        · have hk := htl2.resolve_left hz0
          have hmulc : (xs.length * sz + us.size) + (cap - (xs ++ ys).length) * sz = cap * sz := by
            rw [husz, ← Nat.add_mul, ← Nat.add_mul]; congr 1; simp; omega
          have hmulx : xs.length * sz + (cap - xs.length) * sz = cap * sz := by rw [← Nat.add_mul]; congr 1; omega
          obtain ⟨cells, S, hcell, hsize, hput⟩ := s.append_in ht hk us (by omega) hz0
          have hrun := run_storeCells_at (P := P) b (off + xs.length * sz) S us.toList 0 cells w hcell (by simp; omega) (hus.oneCells (flat_one hry))
          simp only [Nat.add_zero] at hrun
          rw [setRow_eq w b cells _ S (0, 0) hcell] at hrun
          obtain ⟨g', hle, hnt, htok, hi, hs'⟩ := hput (cells.toList.take (off + xs.length * sz) ++ us.toList ++ cells.toList.drop (off + xs.length * sz + us.toList.length)).toArray (by simp; omega) (fun o ho => by
              have := row_put_get cells.toList (off + xs.length * sz) us.toList (by simp; omega) o
              rw [if_neg (by omega)] at this
              simpa using this) (fun o ho => by
              have := row_put_get cells.toList (off + xs.length * sz) us.toList (by simp; omega) (off + xs.length * sz + o)
              rw [if_pos (by simp; omega)] at this
              simpa using this)
          refine same g' _ _ hle hs' (hrel g' g.ntok hle hi ⟨by omega, .inr ?_⟩) (hstore _ hrun)
          rw [htok]
          simp only [Option.some.injEq, Prod.mk.injEq, true_and]
          have e1 : off + (xs ++ ys).length * sz = off + xs.length * sz + us.size := by rw [husz, List.length_append, Nat.add_mul]; omega
          exact ⟨e1.symm, by omega⟩
theorem AStep.less {o : Oper} {R R' : AV → Heap → Prop} (h : AStep P o env H R) (hr : ∀ x H', R x H' → ∃ y H'', Weak x y ∧ H''.le H' ∧ R' y H'') : AStep P o env H R' :=
  fun g n a w k s => (h g n a w k s).mono fun _ _ ⟨g', _, _, h1, h2, h3, h4⟩ => let ⟨y, H'', hw, hl, hR⟩ := hr _ _ h4; ⟨g', y, H'', h1, hw.rel h2, h3.weaken hl, hR⟩
end

end Go.Proofs.YthhcdmmihjhipaaGreatDoor
