/-
  The frame, part 11: maps with numbers for keys.
-/
import Derived.Test.YtncoklpecffokaaGreatDoorSj
import Derived.MapKept
namespace Go.Proofs.YtncoklpecffokaaGreatDoor
open Go Go.RowKit

theorem ev_nilFunc {env : Env} : Ev env (.const .nilFunc) .nilFunc := .const _ _ fun _ => .nilFunc
/-- A map's entries as data. -/
def ents (k : IntKind) (M : List (Int × AV)) : List (AV × AV) := M.map fun e => (.int k e.1, e.2)
def mget : List (Int × AV) → Int → Option AV
  | [], _ => none
  | (d, y) :: r, c => if d = c then some y else mget r c
def mset : List (Int × AV) → Int → AV → List (Int × AV)
  | [], c, x => [(c, x)]
  | (d, y) :: r, c, x => if d = c then (c, x) :: r else (d, y) :: mset r c x
def mdel : List (Int × AV) → Int → List (Int × AV)
  | [], _ => []
  | (d, y) :: r, c => if d = c then r else (d, y) :: mdel r c
inductive RelM (g : G) (k : IntKind) : List (Int × AV) → List MapEntry → Prop
  | nil : RelM g k [] []
  | cons {c : Int} {x : AV} {M : List (Int × AV)} {e : MapEntry} {l : List MapEntry} (h : e.key = .int k c) (hv : RelV g x e.val) (r : RelM g k M l) : RelM g k ((c, x) :: M) (e :: l)
theorem RelM.of {g : G} {k : IntKind} : ∀ {M : List (Int × AV)} {l : List MapEntry}, RelEnts g (ents k M) l.toArray → RelM g k M l
  | [], l, h => by
    have := h.1
    cases l with
    | nil => exact .nil
    | cons e l => simp [ents] at this
  | (c, x) :: M, l, h => by
    have h1 := h.1
    cases l with
    | nil => simp [ents] at h1
    | cons e l =>
      have h0 := h.2 0 (.int k c) x e rfl (by simp)
      refine .cons ?_ h0.2 (RelM.of ⟨by simpa [ents] using h1, fun i k' y e' he he' => h.2 (i + 1) k' y e' (by simpa [ents] using he) (by simpa using he')⟩)
      have h2 := h0.1
      generalize e.key = key at h2
      cases h2; rfl
theorem RelM.to {g : G} {k : IntKind} {M : List (Int × AV)} {l : List MapEntry} (h : RelM g k M l) : RelEnts g (ents k M) l.toArray := by
  induction h with
  | nil => exact ⟨rfl, fun i k x e he => by simp [ents] at he⟩
  | @cons c x M e l hk hv _ ih =>
    refine ⟨by simpa [ents] using ih.1, fun i k' y e' he he' => ?_⟩
    cases i with
    | zero =>
      simp [ents] at he he'
      obtain ⟨rfl, rfl⟩ := he
      subst he'
      exact ⟨hk ▸ .int _ _, hv⟩
    | succ i => exact ih.2 i k' y e' (by simpa [ents] using he) (by simpa using he')
theorem RelM.find {g : G} {k kt : IntKind} {M : List (Int × AV)} {l : List MapEntry} (h : RelM g k M l) (c : Int) : ∀ i : Nat,
    (mget M c = none ∧ Instr.findNow (.int kt) (.int k c) l i = some none ∧ mdel M c = M ∧ ∀ y v b, RelV g y v → RelM g k (mset M c y) (l ++ [⟨.int k c, v, b⟩])) ∨
    ∃ j e x, mget M c = some x ∧ Instr.findNow (.int kt) (.int k c) l i = some (some (i + j, e.val)) ∧ RelV g x e.val ∧ l[j]? = some e ∧ e.key = .int k c ∧ RelM g k (mdel M c) (l.eraseIdx j) ∧
      ∀ y v, RelV g y v → RelM g k (mset M c y) (l.modify j fun e => { e with key := .int k c, val := v }) := by
  induction h with
  | nil => exact fun i => .inl ⟨rfl, rfl, rfl, fun y v b hv => .cons rfl hv .nil⟩
  | @cons d x M e l hk hv hr ih =>
    intro i
    have hs : Instr.sameNow (.int kt) (.int k c) e.key = some (c == d) := by rw [hk]; simp [Instr.sameNow]
    by_cases hd : d = c
    · subst hd
      refine .inr ⟨0, e, x, by simp [mget], by simp [Instr.findNow, hs], hv, rfl, hk, by simpa [mdel] using hr, fun y v hy => ?_⟩
      simp only [mset, if_true, List.modify]
      exact .cons rfl hy hr
    · have hsf : Instr.sameNow (.int kt) (.int k c) e.key = some false := by rw [hs, beq_eq_false_iff_ne.2 (fun h => hd h.symm)]
      rcases ih (i + 1) with ⟨h1, h2, h3, h4⟩ | ⟨j, e', x', h1, h2, h3, h4, h5, h6, h7⟩
      · refine .inl ⟨by simp [mget, hd, h1], by simp only [Instr.findNow, hsf, h2], by simp [mdel, hd, h3], fun y v b hy => ?_⟩
        simp only [mset, hd, if_false, List.cons_append]
        exact .cons hk hv (h4 y v b hy)
      · refine .inr ⟨j + 1, e', x', by simp [mget, hd, h1], by simp only [Instr.findNow, hsf, h2]; rw [show i + 1 + j = i + (j + 1) by omega], h3, by simpa using h4, h5, ?_, fun y v hy => ?_⟩
        · simp only [mdel, hd, if_false, List.eraseIdx_cons_succ]
          exact .cons hk hv h6
        · simp only [mset, hd, if_false, List.modify_succ_cons]
          exact .cons hk hv (h7 y v hy)

theorem RelM.none {g : G} {k : IntKind} {M : List (Int × AV)} {l : List MapEntry} (h : RelM g k M l) {c : Int} (hc : mget M c = .none) : ∀ e ∈ l, e.key ≠ .int k c := by
  induction h with
  | nil => intro e he; simp at he
  | @cons d x M e l hk hv hr ih =>
    simp only [mget] at hc
    split at hc
    · cases hc
    · rename_i hd
      intro e' he'
      rcases List.mem_cons.1 he' with rfl | he'
      · rw [hk]; intro h; cases h; exact hd rfl
      · exact ih hc e' he'

/-! ### the operations -/
section
variable {P : Program} {dst : Option Tmp} {ty : TypeId} {pos : String} {af : Array Edge} {gd : Option (Nat × Bool)} {env : Env} {H : Heap}
theorem Sat.entries {g : G} {H : Heap} {w : World} (s : Sat g H w) {m : Nat} {k : IntKind} {M : List (Int × AV)} (hm : H.objs m = some (.map (ents k M))) :
    ∃ es clock, w.heap[m]? = some (.map es clock) ∧ RelM g k M es.toList ∧ MapKept.Stamped es clock := by
  obtain ⟨es, clock, h1, h2⟩ := s.map m _ hm
  exact ⟨es, clock, h1, RelM.of h2.1, h2.2⟩
theorem step_lookup {T K E : TypeId} {k : IntKind} {x i : Operand} {m : Nat} {M : List (Int × AV)} {c : Int} {z : Value} {y : AV} (hu : P.underlying T = some (.map K E)) (hk : P.underlying K = some (.int k))
    (hz : ∀ w, (zeroValue E).run P w = .ok z w) (hy : ∀ g, RelV g y z) (hx : Ev env x (.map (some m))) (hi : Ev env i (.int k c)) (hm : H.objs m = some (.map (ents k M))) :
    AStep P ⟨dst, .lookup T x i false, ty, pos, af, gd⟩ env H (fun v H' => v = (mget M c).getD y ∧ H' = H) := by
  intro g n a w ka s
  obtain ⟨v, he, hv⟩ := ev1 hx ka
  obtain ⟨u, hf, hu'⟩ := ev1 hi ka
  cases hv; cases hu'
  obtain ⟨es, clock, hw, hr, hst⟩ := s.entries hm
  have hck : ∀ b, (Instr.checkKey b 10000 K (.int k c)).run P w = .ok () w := fun b => MapKept.run_checkKey (d := .int k) (k := .int k c) hk (show k = k from rfl) b 9999
  rcases hr.find (kt := k) c 0 with ⟨h1, h2, _, _⟩ | ⟨j, e, x', h1, h2, h3, _, _, _, _⟩
  · have : (execOp a.eval ⟨dst, .lookup T x i false, ty, pos, af, gd⟩).run P w = .ok (.value z) w := by
      simp [execOp, he, hf, Instr.lookup, run_underlying hu, MapKept.run_getObj_map hw, hck, MapKept.run_findKey hk h2, hz]
    rw [this, h1]
    exact ⟨g, y, H, .id, hy g, s, rfl, rfl⟩
  · have : (execOp a.eval ⟨dst, .lookup T x i false, ty, pos, af, gd⟩).run P w = .ok (.value e.val) w := by
      simp [execOp, he, hf, Instr.lookup, run_underlying hu, MapKept.run_getObj_map hw, hck, MapKept.run_findKey hk h2]
    rw [this, h1]
    exact ⟨g, x', H, .id, h3, s, rfl, rfl⟩
theorem step_lookup2 {T K E : TypeId} {k : IntKind} {x i : Operand} {m : Nat} {M : List (Int × AV)} {c : Int} {z : Value} {y : AV} (hu : P.underlying T = some (.map K E)) (hk : P.underlying K = some (.int k))
    (hz : ∀ w, (zeroValue E).run P w = .ok z w) (hy : ∀ g, RelV g y z) (hx : Ev env x (.map (some m))) (hi : Ev env i (.int k c)) (hm : H.objs m = some (.map (ents k M))) :
    AStep P ⟨dst, .lookup T x i true, ty, pos, af, gd⟩ env H (fun v H' => v = .tuple [(mget M c).getD y, .bool (mget M c).isSome] ∧ H' = H) := by
  intro g n a w ka s
  obtain ⟨v, he, hv⟩ := ev1 hx ka
  obtain ⟨u, hf, hu'⟩ := ev1 hi ka
  cases hv; cases hu'
  obtain ⟨es, clock, hw, hr, hst⟩ := s.entries hm
  have hck : ∀ b, (Instr.checkKey b 10000 K (.int k c)).run P w = .ok () w := fun b => MapKept.run_checkKey (d := .int k) (k := .int k c) hk (show k = k from rfl) b 9999
  have two : ∀ {p : AV} {q : Value} {t : Bool}, RelV g p q → RelV g (.tuple [p, .bool t]) (.tuple #[q, .bool t]) := fun {p q t} h => .tuple _ _ rfl (fun i c v hc hv => by
    match i with
    | 0 => simp at hc hv; subst hc; subst hv; exact h
    | 1 => simp at hc hv; subst hc; subst hv; exact .bool _
    | i + 2 => simp at hc)
  rcases hr.find (kt := k) c 0 with ⟨h1, h2, _, _⟩ | ⟨j, e, x', h1, h2, h3, _, _, _, _⟩
  · have : (execOp a.eval ⟨dst, .lookup T x i true, ty, pos, af, gd⟩).run P w = .ok (.value (.tuple #[z, .bool false])) w := by
      simp [execOp, he, hf, Instr.lookup, run_underlying hu, MapKept.run_getObj_map hw, hck, MapKept.run_findKey hk h2, hz]
    rw [this, h1]
    exact ⟨g, _, H, .id, two (hy g), s, rfl, rfl⟩
  · have : (execOp a.eval ⟨dst, .lookup T x i true, ty, pos, af, gd⟩).run P w = .ok (.value (.tuple #[e.val, .bool true])) w := by
      simp [execOp, he, hf, Instr.lookup, run_underlying hu, MapKept.run_getObj_map hw, hck, MapKept.run_findKey hk h2]
    rw [this, h1]
    exact ⟨g, _, H, .id, two h3, s, rfl, rfl⟩
theorem step_makeMap {T : TypeId} : AStep P ⟨dst, .makeMap T none, ty, pos, af, gd⟩ env H (fun v H' => ∃ m, H.objs m = none ∧ v = .map (some m) ∧ H' = H.set m (.map [])) := by
  intro g n a w ka s
  have : (execOp a.eval ⟨dst, .makeMap T none, ty, pos, af, gd⟩).run P w = .ok (.value (.map (some w.heap.size))) (w.alloc (.map #[] 0)) := by
    simp [execOp, Instr.makeMap]
  rw [this]
  exact ⟨g, _, _, .id, .map _, s.new_map, w.heap.size, s.new_none, rfl, rfl⟩
/-- What an update leaves. -/
theorem Sat.setMap {g : G} {H : Heap} {w : World} (s : Sat g H w) {m : Nat} {k : IntKind} {M M' : List (Int × AV)} (hm : H.objs m = some (.map (ents k M))) {es es' : Array MapEntry} {clock clock' : Nat}
    (hw : w.heap[m]? = some (.map es clock)) (hr : RelM g k M' es'.toList) (hst : MapKept.Stamped es' clock') : Sat g (H.set m (.map (ents k M'))) { w with heap := w.heap.setIfInBounds m (.map es' clock') } := by
  have hlt : m < w.heap.size := (Array.getElem?_eq_some_iff.1 hw).1
  refine s.turn hm (fun q hq => ?_) (by simp) rfl rfl rfl ⟨es', clock', by simp [hlt], ?_, hst⟩
  · simp only [Array.getElem?_setIfInBounds]; rw [if_neg (fun h => hq h.symm)]
  · simpa using hr.to
theorem step_mapUpdate {T K E : TypeId} {k : IntKind} {x i v : Operand} {m : Nat} {M : List (Int × AV)} {c : Int} {y : AV} (hu : P.underlying T = some (.map K E)) (hk : P.underlying K = some (.int k))
    (hx : Ev env x (.map (some m))) (hi : Ev env i (.int k c)) (hv : Ev env v y) (hm : H.objs m = some (.map (ents k M))) :
    AStep P ⟨dst, .mapUpdate T x i v, ty, pos, af, gd⟩ env H (fun z H' => z = .raw undef ∧ H' = H.set m (.map (ents k (mset M c y)))) := by
  intro g n a w ka s
  obtain ⟨v1, he, hv1⟩ := ev1 hx ka
  obtain ⟨v2, hf, hv2⟩ := ev1 hi ka
  obtain ⟨v3, hg, hv3⟩ := ev1 hv ka
  cases hv1; cases hv2
  obtain ⟨es, clock, hw, hr, hst⟩ := s.entries hm
  have hck : ∀ b, (Instr.checkKey b 10000 K (.int k c)).run P w = .ok () w := fun b => MapKept.run_checkKey (d := .int k) (k := .int k c) hk (show k = k from rfl) b 9999
  rcases hr.find (kt := k) c 0 with ⟨h1, h2, _, h4⟩ | ⟨j, e, x', h1, h2, h3, h4, h5, h6, h7⟩
  · have : (execOp a.eval ⟨dst, .mapUpdate T x i v, ty, pos, af, gd⟩).run P w = .ok .skip { w with heap := w.heap.setIfInBounds m (.map (es.push ⟨.int k c, v3, clock⟩) (clock + 1)) } := by
      simp [execOp, he, hf, hg, Instr.mapUpdate, run_underlying hu, MapKept.run_getObj_map hw, hck, MapKept.run_findKey hk h2, MapKept.run_setObj_map _ hw]
    rw [this]
    exact ⟨g, _, _, .id, .raw _, s.setMap hm hw (by simpa using h4 y v3 clock hv3) (MapKept.stamped_push hst (hr.none h1)), rfl, rfl⟩
  · have hj : es[j]? = some e := by simpa using h4
    have : (execOp a.eval ⟨dst, .mapUpdate T x i v, ty, pos, af, gd⟩).run P w = .ok .skip { w with heap := w.heap.setIfInBounds m (.map (es.modify j fun e => { e with key := .int k c, val := v3 }) clock) } := by
      simp [execOp, he, hf, hg, Instr.mapUpdate, run_underlying hu, MapKept.run_getObj_map hw, hck, MapKept.run_findKey hk h2, MapKept.run_setObj_map _ hw, hj, h5, Instr.keyThatStays, Instr.sameBits]
    rw [this]
    exact ⟨g, _, _, .id, .raw _, s.setMap hm hw (by simpa using h7 y v3 hv3) (MapKept.stamped_modify hst j _ (fun _ _ => rfl) (fun e' _ he' => by rw [hj] at he'; cases he'; exact h5.symm)), rfl, rfl⟩
theorem step_delete {T K E T' : TypeId} {k : IntKind} {x i : Operand} {m : Nat} {M : List (Int × AV)} {c : Int} (hu : P.underlying T = some (.map K E)) (hk : P.underlying K = some (.int k))
    (hx : Ev env x (.map (some m))) (hi : Ev env i (.int k c)) (hm : H.objs m = some (.map (ents k M))) :
    AStep P ⟨dst, .call { callee := .builtin .delete, args := #[x, i], argTypes := #[T, T'] }, ty, pos, af, gd⟩ env H (fun z H' => H' = H.set m (.map (ents k (mdel M c)))) := by
  intro g n a w ka s
  obtain ⟨v1, he, hv1⟩ := ev1 hx ka
  obtain ⟨v2, hf, hv2⟩ := ev1 hi ka
  cases hv1; cases hv2
  obtain ⟨es, clock, hw, hr, hst⟩ := s.entries hm
  have hck : ∀ b, (Instr.checkKey b 10000 K (.int k c)).run P w = .ok () w := fun b => MapKept.run_checkKey (d := .int k) (k := .int k c) hk (show k = k from rfl) b 9999
  rcases hr.find (kt := k) c 0 with ⟨h1, h2, h3, h4⟩ | ⟨j, e, x', h1, h2, h3, h4, h5, h6, h7⟩
  · have : (execOp a.eval ⟨dst, .call { callee := .builtin .delete, args := #[x, i], argTypes := #[T, T'] }, ty, pos, af, gd⟩).run P w = .ok (.value (.tuple #[])) { w with heap := w.heap.setIfInBounds m (.map es clock) } := by
      simp [execOp, resolve, invoke, builtin, he, hf, Builtin.delete_, run_underlying hu, MapKept.run_getObj_map hw, hck, MapKept.run_findKey hk h2, MapKept.run_setObj_map _ hw]
    rw [this]
    exact ⟨g, .tuple [], _, .id, .tuple _ _ rfl (fun i c v hc _ => by simp at hc), s.setMap hm hw (by rw [h3]; exact hr) hst, rfl⟩
  · have hj : es[j]? = some e := by simpa using h4
    have hjl : j < es.size := (Array.getElem?_eq_some_iff.1 hj).1
    have : (execOp a.eval ⟨dst, .call { callee := .builtin .delete, args := #[x, i], argTypes := #[T, T'] }, ty, pos, af, gd⟩).run P w = .ok (.value (.tuple #[])) { w with heap := w.heap.setIfInBounds m (.map (es.eraseIdxIfInBounds j) clock) } := by
      simp [execOp, resolve, invoke, builtin, he, hf, Builtin.delete_, run_underlying hu, MapKept.run_getObj_map hw, hck, MapKept.run_findKey hk h2, MapKept.run_setObj_map _ hw]
    rw [this]
    exact ⟨g, .tuple [], _, .id, .tuple _ _ rfl (fun i c v hc _ => by simp at hc), s.setMap hm hw (by simpa [Array.eraseIdxIfInBounds, hjl] using h6) (MapKept.stamped_erase hst j), rfl⟩
theorem RelM.length {g : G} {k : IntKind} {M : List (Int × AV)} {l : List MapEntry} (h : RelM g k M l) : l.length = M.length := by
  induction h with
  | nil => rfl
  | cons _ _ _ ih => simp [ih]
theorem step_lenMap {T K E : TypeId} {k : IntKind} {x : Operand} {m : Nat} {M : List (Int × AV)} (hu : P.underlying T = some (.map K E)) (hx : Ev env x (.map (some m))) (hm : H.objs m = some (.map (ents k M))) :
    AStep P ⟨dst, .call { callee := .builtin .len, args := #[x], argTypes := #[T] }, ty, pos, af, gd⟩ env H (fun z H' => z = .int .i64 M.length ∧ H' = H) := by
  intro g n a w ka s
  obtain ⟨v, he, hv⟩ := ev1 hx ka
  cases hv
  obtain ⟨es, clock, hw, hr, hst⟩ := s.entries hm
  have : (execOp a.eval ⟨dst, .call { callee := .builtin .len, args := #[x], argTypes := #[T] }, ty, pos, af, gd⟩).run P w = .ok (.value (.int .i64 es.size)) w := by
    simp [execOp, resolve, invoke, builtin, he, Builtin.len_, run_underlying hu, MapKept.run_getObj_map hw, goInt]
  rw [this]
  refine ⟨g, _, H, .id, ?_, s, rfl, rfl⟩
  have := hr.length
  rw [Array.length_toList] at this
  rw [this]; exact .int _ _
end
end Go.Proofs.YtncoklpecffokaaGreatDoor
