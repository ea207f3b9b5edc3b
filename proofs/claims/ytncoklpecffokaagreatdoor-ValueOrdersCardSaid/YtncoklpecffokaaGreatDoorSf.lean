/-
  The frame, part 6: structs and slices put together, pieces of slices, append.
-/
import Derived.Test.YtncoklpecffokaaGreatDoorSe
namespace Go.Proofs.YtncoklpecffokaaGreatDoor
open Go Go.RowKit

section
variable {P : Program} {env : Env} {H : Heap} {dst : Option Tmp} {ty : TypeId} {pos : String} {af : Array Edge} {gd : Option (Nat × Bool)}

/-! ### put together -/
/-- 'fill' on data. -/
def fillA (place : Nat → Option (Nat × Nat)) : List AV → List (Nat × AV) → Option (List AV)
  | cs, [] => some cs
  | cs, (i, x) :: rest =>
    match place i with
    | none => none
    | some (off, size) => if x.cells.length = size ∧ off + x.cells.length ≤ cs.length then fillA place (putRow cs off x.cells) rest else none
theorem foldl_set (off : Nat) : ∀ (us : List Value) (k : Nat) (cs : Array Value), off + k + us.length ≤ cs.size →
    ((us.zipIdx k).foldl (fun cs (c, j) => cs.setIfInBounds (off + j) c) cs) = (cs.toList.take (off + k) ++ us ++ cs.toList.drop (off + k + us.length)).toArray
  | [], k, cs, _ => by simp
  | u :: us, k, cs, h => by
    simp only [List.length_cons] at h
    rw [List.zipIdx_cons, List.foldl_cons, foldl_set off us (k + 1) _ (by simp; omega)]
    apply congrArg
    apply List.ext_getElem?
    intro i
    have e1 := row_put_get ((cs.setIfInBounds (off + k) u).toList) (off + (k + 1)) us (by simp; omega) i
    have e2 := row_put_get cs.toList (off + k) (u :: us) (by simp; omega) i
    rw [e1]
    rw [e2]
    simp only [List.length_cons, Array.getElem?_toList, Array.getElem?_setIfInBounds]
    by_cases h1 : i < off + k
    · rw [if_neg (by omega), if_neg (by omega), if_neg (by omega)]
    · by_cases h2 : i = off + k
      · subst h2
        rw [if_neg (by omega), if_pos (by omega), if_pos (by omega)]
        simp
      · by_cases h3 : i < off + (k + 1) + us.length
        · rw [if_pos (by omega), if_pos (by omega), show i - (off + k) = (i - (off + (k + 1))) + 1 by omega, List.getElem?_cons_succ]
        · rw [if_neg (by omega), if_neg (by omega), if_neg (by omega)]
theorem RelCells.fill {g : G} {place : Nat → Option (Nat × Nat)} : ∀ {ps : List (Nat × AV)} {qs : List (Nat × Value)} {cs ds : List AV} {vs : Array Value}, RelCells g cs vs →
    ps.length = qs.length → (∀ (i : Nat) p q, ps[i]? = some p → qs[i]? = some q → p.1 = q.1 ∧ RelCells g p.2.cells q.2.cells) → fillA place cs ps = some ds → ∃ us, Instr.fill place vs qs = some us ∧ RelCells g ds us
  | [], [], cs, ds, vs, h, _, _, hf => by simp only [fillA, Option.some.injEq] at hf; subst hf; exact ⟨vs, rfl, h⟩
  | (i, x) :: ps, (j, v) :: qs, cs, ds, vs, h, hl, hr, hf => by
    obtain ⟨hij, hcv⟩ := hr 0 (i, x) (j, v) rfl rfl
    simp only at hij hcv
    subst hij
    simp only [fillA] at hf
    simp only [Instr.fill]
    cases hp : place i with
    | none => rw [hp] at hf; cases hf
    | some os =>
      obtain ⟨off, size⟩ := os
      rw [hp] at hf
      simp only at hf
      split at hf
      · rename_i hc
        have e1 := hcv.1
        have e2 := h.1
        have hfold := foldl_set off v.cells.toList 0 vs (by simp; omega)
        simp only [Nat.add_zero] at hfold
        have e3 : v.cells.zipIdx.foldl (fun cs (c, j) => cs.setIfInBounds (off + j) c) vs = (vs.toList.take off ++ v.cells.toList ++ vs.toList.drop (off + v.cells.toList.length)).toArray := by
          rw [← hfold, ← Array.foldl_toList, Array.toList_zipIdx]
        have hnot : ¬(v.cells.size ≠ size ∨ off + v.cells.size > vs.size) := by omega
        obtain ⟨us, h1, h2⟩ := RelCells.fill (ps := ps) (qs := qs) (h.putRow hcv (by omega)) (by simpa using hl) (fun k p q hpk hqk => hr (k + 1) p q hpk hqk) hf
        refine ⟨us, ?_, h2⟩
        simp only [e3]
        rw [if_neg (by simpa using hnot)]
        exact h1
      · cases hf

inductive Parts (env : Env) : List (Nat × Operand) → List (Nat × AV) → Prop
  | nil : Parts env [] []
  | cons {i o x ps qs} (h : Ev env o x) (h1 : x.one = true ∨ ∃ cs, x = .agg cs) (k : Parts env ps qs) : Parts env ((i, o) :: ps) ((i, x) :: qs)
theorem Parts.rel {ps : List (Nat × Operand)} {qs : List (Nat × AV)} (h : Parts env ps qs) {g : G} {n : Nat} {a : Act} (k : RelAct g n env a) :
    qs.length = (ps.map fun p => (p.1, a.eval p.2)).length ∧ ∀ (i : Nat) p q, qs[i]? = some p → (ps.map fun p => (p.1, a.eval p.2))[i]? = some q → p.1 = q.1 ∧ RelCells g p.2.cells q.2.cells := by
  induction h with
  | nil => exact ⟨rfl, fun i p q hp _ => by simp at hp⟩
  | cons h h1 _ ih =>
    refine ⟨by simp [ih.1], fun i p q hp hq => ?_⟩
    cases i with
    | zero => simp at hp hq; subst hp; subst hq; exact ⟨rfl, (h.rel k).rcells h1⟩
    | succ i => simp only [List.getElem?_cons_succ, List.map_cons] at hp hq; exact ih.2 i p q hp hq

theorem mapM_places {fs : Array Field} {places : List (Nat × Nat)} (hp : fs.toList.map (·.offset) = places.map (·.1)) (hs : ∀ (i : Nat) f p, fs[i]? = some f → places[i]? = some p → ∀ w, (sizeOf f.type).run P w = .ok p.2 w) (w : World) :
    (fs.mapM fun f => Prod.mk f.offset <$> sizeOf f.type : Sem (Array (Nat × Nat))).run P w = .ok places.toArray w := by
  rw [Array.mapM_eq_mapM_toList, Sem.run_map]
  have key : ∀ (l : List Field) (ps : List (Nat × Nat)), l.map (·.offset) = ps.map (·.1) → (∀ (i : Nat) f p, l[i]? = some f → ps[i]? = some p → ∀ w, (sizeOf f.type).run P w = .ok p.2 w) →
      (l.mapM fun f => Prod.mk f.offset <$> sizeOf f.type : Sem (List (Nat × Nat))).run P w = .ok ps w := by
    intro l
    induction l with
    | nil => intro ps h _; cases ps with
      | nil => simp
      | cons => simp at h
    | cons f l ih =>
      intro ps h hs
      cases ps with
      | nil => simp at h
      | cons p ps =>
        simp only [List.map_cons, List.cons.injEq] at h
        rw [List.mapM_cons, Sem.run_bind, Sem.run_map, hs 0 f p rfl rfl]
        simp only [Result.andThen_ok]
        rw [Sem.run_bind, ih ps h.2 (fun i f' p' hf hp => hs (i + 1) f' p' hf hp)]
        simp [h.1]
  rw [key fs.toList places hp (fun i f p hf hp => hs i f p (by simpa using hf) hp)]
  rfl
theorem pure_build {T : TypeId} {fs : Array Field} {ops : List (Nat × Operand)} {qs : List (Nat × AV)} {z : Value} {zs cs : List AV} (places : List (Nat × Nat)) (hu : P.underlying T = some (.struct fs)) (hz : ∀ w, (zeroValue T).run P w = .ok z w)
    (hzr : ∀ g, RelCells g zs z.cells) (hp : fs.toList.map (·.offset) = places.map (·.1)) (hs : ∀ (i : Nat) f p, fs[i]? = some f → places[i]? = some p → ∀ w, (sizeOf f.type).run P w = .ok p.2 w)
    (hq : Parts env ops qs) (hf : fillA (places[·]?) zs qs = some cs) : APure P ⟨dst, .build T ops.toArray, ty, pos, af, gd⟩ env (.agg cs) := by
  intro g n a ka
  obtain ⟨h1, h2⟩ := hq.rel ka
  obtain ⟨us, h3, h4⟩ := (hzr g).fill h1 h2 hf
  refine ⟨.agg us, .agg cs us h4.1 h4.2, fun w _ => ?_⟩

  simp [execOp, Instr.build, hz, underlying, hu, mapM_places hp hs, h3]

/-- The cells of a slice's elements, in a row. -/
theorem flat_get {sz : Nat} : ∀ {xs : List AV}, (∀ x, x ∈ xs → x.cells.length = sz) → ∀ {i j : Nat} {x c : AV}, xs[i]? = some x → x.cells[j]? = some c → (xs.flatMap AV.cells)[i * sz + j]? = some c
  | [], _, i, j, x, c, hx, _ => by simp at hx
  | y :: ys, h, i, j, x, c, hx, hc => by
    have hy := h y (by simp)
    rw [List.flatMap_cons]
    cases i with
    | zero =>
      simp at hx; subst hx
      rw [Nat.zero_mul, Nat.zero_add, List.getElem?_append_left (List.getElem?_eq_some_iff.1 hc).1]; exact hc
    | succ i =>
      simp only [List.getElem?_cons_succ] at hx
      rw [List.getElem?_append_right (by rw [hy, Nat.add_mul]; omega), hy, show (i + 1) * sz + j - sz = i * sz + j by rw [Nat.add_mul]; omega]
      exact flat_get (fun z hz => h z (by simp [hz])) hx hc
theorem flat_length {sz : Nat} : ∀ {xs : List AV}, (∀ x, x ∈ xs → x.cells.length = sz) → (xs.flatMap AV.cells).length = xs.length * sz
  | [], _ => by simp
  | y :: ys, h => by
    rw [List.flatMap_cons, List.length_append, h y (by simp), flat_length (fun z hz => h z (by simp [hz])), List.length_cons, Nat.add_mul]; omega
/-- A row of cells as it lies is a slice. -/
theorem RelV.of_row {g : G} {sz : Nat} {xs : List AV} {tl : Tail} {b off cap : Nat} {vs : Nat → Value} {us : Array Value} (hrow : ∀ x, x ∈ xs → x.row sz) (hr : RelCells g (xs.flatMap AV.cells) us)
    (hv : ∀ i u, us[i]? = some u → vs i = u) (hi : ∀ i, i < xs.length * sz → g.imm b (off + i) = some (vs i)) (hlen : xs.length ≤ cap) (hcap : cap ≤ maxLen) (htl : TailOK g tl b (off + xs.length * sz) ((cap - xs.length) * sz)) :
    RelV g (.slice sz xs tl) (.slice (some ⟨b, off, none⟩) xs.length cap) := by
  refine .slice sz xs tl b off cap vs hrow hi (fun i j x c hx hc => ?_) hlen hcap htl
  obtain ⟨u, hu, hru⟩ := hr.at (flat_get (fun z hz => (hrow z hz).1) hx hc)
  rw [hv _ u hu]; exact hru

theorem step_buildSlice {T E : TypeId} {len sz : Nat} {ops : List (Nat × Operand)} {qs : List (Nat × AV)} {z : Value} {zs xs : List AV} (hu : P.underlying T = some (.slice E)) (hs : ∀ w, (sizeOf E).run P w = .ok sz w)
    (hz : ∀ w, (zeroValue E).run P w = .ok z w) (hzr : ∀ g, RelCells g zs ((Array.range (len * sz)).map (z.cells[· % z.cells.size]!))) (hbig : Nat.ble (len * sz) 16777216 = true) (hbig' : Nat.ble len 16777216 = true) (hq : Parts env ops qs) (hrow : ∀ x, x ∈ xs → x.row sz)
    (hlen : xs.length = len) (hf : fillA (fun i => some (i * sz, sz)) zs qs = some (xs.flatMap AV.cells)) :
    AStep P ⟨dst, .buildSlice T len ops.toArray, ty, pos, af, gd⟩ env H (fun y H' => y = .slice sz xs .full ∧ H' = H) := by
  intro g n a w ka s
  obtain ⟨h1, h2⟩ := hq.rel ka
  obtain ⟨us, h3, h4⟩ := (hzr g).fill h1 h2 hf
  have hus : us.size = xs.length * sz := by rw [← h4.1]; exact flat_length (fun x hx => (hrow x hx).1)
  have hbig := Nat.le_of_ble_eq_true hbig
  have hbig' := Nat.le_of_ble_eq_true hbig'
  have hcap : xs.length ≤ maxLen := by unfold maxLen; omega
  have hrun : (execOp a.eval ⟨dst, .buildSlice T len ops.toArray, ty, pos, af, gd⟩).run P w = .ok (.value (.slice (some ⟨w.heap.size, 0, none⟩) len len)) (w.alloc (.cells us E)) := by
    have e1 : ¬ (2 ^ 24 < len * sz) := by simpa using hbig
    have h3' : Instr.fill (fun i => some (i * sz, sz)) ((Array.range (len * sz)).map (z.cells[· % z.cells.size]!)) (ops.map fun p => (p.1, a.eval p.2)) = some us := h3
    simp only [execOp, Instr.buildSlice]
    simp [underlying, hu, hs]
    rw [if_neg (by simpa using e1)]
    by_cases e : len * sz = 0
    · rw [if_pos e]
      have e2 : (Array.map (fun _ => (default : Value)) (Array.range (len * sz))) = (Array.range (len * sz)).map (z.cells[· % z.cells.size]!) := by rw [e]; simp
      rw [e2, h3']
      simp [newRow]
    · rw [if_neg e, hz]
      simp [h3', newRow]
  rw [hrun]
  have s' := s.new_imm us E (0, 0) us.size
  have hle : g.le (g.addImm w.heap.size fun o => if o < us.size then us[o]? else none) := G.le_addImm (fun o u hu => by rw [s.imm_new] at hu; cases hu)
  refine ⟨_, .slice sz xs .full, H, hle, ?_, s', rfl, rfl⟩
  subst hlen
  refine RelV.of_row (us := us) (vs := fun i => us.getD i undef) hrow (h4.mono hle) (fun i u hi => by simp [hi]) (fun i hi => ?_) (Nat.le_refl _) hcap (by show (xs.length - xs.length) * sz = 0; simp)
  rw [G.imm_addImm]; simp [hus, hi]
end

end Go.Proofs.YtncoklpecffokaaGreatDoor
