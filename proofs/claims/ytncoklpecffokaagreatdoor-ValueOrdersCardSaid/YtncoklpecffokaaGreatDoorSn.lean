/-
  The frame, part 14: a field of a struct that is a value.
-/
import Derived.Test.YtncoklpecffokaaGreatDoorSm
namespace Go.Proofs.YtncoklpecffokaaGreatDoor
open Go Go.RowKit
section
variable {P : Program} {env : Env} {H : Heap} {dst : Option Tmp} {ty : TypeId} {pos : String} {af : Array Edge} {gd : Option (Nat × Bool)}
theorem pure_fieldV1 {S : TypeId} {fs : Array Field} {f k : Nat} {fd : Field} {x : Operand} {cs : List AV} {c : AV} (hu : P.underlying S = some (.struct fs)) (hf : fs[f]? = some fd) (ha : ∀ w, (isAgg fd.type).run P w = .ok false w) (_hs : ∀ w, (sizeOf fd.type).run P w = .ok k w)
    (hx : Ev env x (.agg cs)) (hc : cs[fd.offset]? = some c) : APure P ⟨dst, .field S x f, ty, pos, af, gd⟩ env c := by
  intro g n a ka
  obtain ⟨v, he, hv⟩ := ev1 hx ka
  obtain ⟨vs, rfl, hr⟩ := hv.cells_agg
  obtain ⟨u, hu', hrel⟩ := hr.at hc
  have hlt : fd.offset < vs.size := (Array.getElem?_eq_some_iff.1 hu').1
  refine ⟨u, hrel, fun w _ => ?_⟩
  simp [execOp, he, Instr.field, underlying, hu, hf, asAgg, part, ha, hu']
theorem pure_fieldVN {S : TypeId} {fs : Array Field} {f k : Nat} {fd : Field} {x : Operand} {cs : List AV} (hu : P.underlying S = some (.struct fs)) (hf : fs[f]? = some fd) (ha : ∀ w, (isAgg fd.type).run P w = .ok true w) (hs : ∀ w, (sizeOf fd.type).run P w = .ok k w)
    (hx : Ev env x (.agg cs)) (hc : Nat.ble (fd.offset + k) cs.length = true) : APure P ⟨dst, .field S x f, ty, pos, af, gd⟩ env (.agg ((cs.drop fd.offset).take k)) := by
  intro g n a ka
  obtain ⟨v, he, hv⟩ := ev1 hx ka
  obtain ⟨vs, rfl, hr⟩ := hv.cells_agg
  have hc := Nat.le_of_ble_eq_true hc
  have hsz := hr.1
  refine ⟨.agg (vs.extract fd.offset (fd.offset + k)), .agg _ _ (by simp; omega) (fun i c v hc hv => ?_), fun w _ => ?_⟩
  · rw [List.getElem?_take] at hc
    split at hc
    · rw [List.getElem?_drop] at hc
      simp only [Array.getElem?_extract] at hv
      split at hv
      · exact hr.2 _ c v hc hv
      · cases hv
    · cases hc
  · simp [execOp, he, Instr.field, underlying, hu, hf, asAgg, part, ha, hs]
    try omega
theorem fillA_row {sz : Nat} : ∀ (qs : List (Nat × AV)) (k : Nat) (cs : List AV), qs.map (·.1) = List.range' k qs.length → (∀ q, q ∈ qs → q.2.row sz) → cs.length = (k + qs.length) * sz →
    fillA (fun i => some (i * sz, sz)) cs qs = some (cs.take (k * sz) ++ (qs.map (·.2)).flatMap AV.cells)
  | [], k, cs, _, _, hl => by
    simp only [List.length_nil, Nat.add_zero] at hl
    simp only [fillA, List.map_nil, List.flatMap_nil, List.append_nil]
    rw [List.take_of_length_le (by omega)]
  | (i, x) :: qs, k, cs, hi, hr, hl => by
    simp only [List.map_cons, List.length_cons, List.range'_succ, List.cons.injEq] at hi
    obtain ⟨rfl, hi⟩ := hi
    have hx := (hr (i, x) (by simp)).1
    simp only at hx
    simp only [List.length_cons] at hl
    have e1 : (i + (qs.length + 1)) * sz = i * sz + sz + qs.length * sz := by rw [Nat.add_mul, Nat.add_mul, Nat.one_mul]; omega
    simp only [fillA]
    rw [if_pos ⟨hx, by omega⟩]
    rw [fillA_row qs (i + 1) _ hi (fun q hq => hr q (by simp [hq])) (by simp only [putRow, List.length_append, List.length_take, List.length_drop]; rw [hx, show (i + 1 + qs.length) * sz = i * sz + sz + qs.length * sz by rw [Nat.add_mul, Nat.add_mul, Nat.one_mul]]; omega)]
    have e2 : (i + 1) * sz = i * sz + sz := by rw [Nat.add_mul, Nat.one_mul]
    simp only [putRow, List.map_cons, List.flatMap_cons]
    rw [List.take_append_of_le_length (by simp; omega), List.take_of_length_le (by simp; omega)]
    simp
theorem Parts.idx {env : Env} {ps : List (Nat × Operand)} {qs : List (Nat × AV)} (h : Parts env ps qs) : qs.map (·.1) = ps.map (·.1) ∧ qs.length = ps.length := by
  induction h with
  | nil => exact ⟨rfl, rfl⟩
  | cons _ _ _ ih => exact ⟨by simp [ih.1], by simp [ih.2]⟩
/-- A slice of some elements put together. -/
theorem step_bsN {T E : TypeId} {len sz : Nat} {z : Value} {ops : List (Nat × Operand)} {qs : List (Nat × AV)} (hu : P.underlying T = some (.slice E)) (hs : ∀ w, (sizeOf E).run P w = .ok sz w) (hz : ∀ w, (zeroValue E).run P w = .ok z w)
    (hsz : Nat.ble (len * sz) 16777216 = true) (hln : Nat.ble len 16777216 = true) (hi : ops.map (·.1) = List.range' 0 len) (hq : Parts env ops qs) (hr : ∀ q, q ∈ qs → q.2.row sz) :
    AStep P ⟨dst, .buildSlice T len ops.toArray, ty, pos, af, gd⟩ env H (fun y H' => y = .slice sz (qs.map (·.2)) .full ∧ H' = H) := by
  have hlen : ops.length = len := by have := congrArg List.length hi; simpa using this
  obtain ⟨h1, h2⟩ := hq.idx
  refine step_buildSlice (xs := qs.map (·.2)) hu hs hz (fun g => range_raw g _ _) hsz hln hq (fun x hx => ?_) (by simp; omega) ?_
  · obtain ⟨q, hq', rfl⟩ := List.mem_map.1 hx
    exact hr q hq'
  · rw [fillA_row qs 0 _ (by rw [h1, hi, h2, hlen]) hr (by simp; rw [h2, hlen])]
    simp
theorem rowq_n {sz : Nat} : ∀ q, q ∈ ([] : List (Nat × AV)) → q.2.row sz := fun q hq => by simp at hq
theorem rowq_c {sz i : Nat} {x : AV} {qs : List (Nat × AV)} (h : x.row sz) (k : ∀ q, q ∈ qs → q.2.row sz) : ∀ q, q ∈ (i, x) :: qs → q.2.row sz := fun q hq => by
  rcases List.mem_cons.1 hq with rfl | h'
  · exact h
  · exact k q h'
end
end Go.Proofs.YtncoklpecffokaaGreatDoor
