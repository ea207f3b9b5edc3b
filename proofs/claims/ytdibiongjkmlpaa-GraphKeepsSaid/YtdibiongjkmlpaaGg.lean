/-
  Library functions over a function: where the first is of which it holds.
-/
import Derived.Test.YtdibiongjkmlpaaGf
namespace Go.Proofs.Ytdibiongjkmlpaa
open Go Go.RowKit
/-- Where the first lies of which p holds. -/
def idxOf {α : Type} (p : α → Bool) (l : List α) : Int := if l.any p = true then (lead (fun x => !p x) l : Int) else -1
theorem idxOf_some {α : Type} {p : α → Bool} {l : List α} {i : Nat} (h : i < l.length) (hl : i ≤ lead (fun x => !p x) l) (hp : p l[i] = true) : idxOf p l = i := by
  rw [idxOf, if_pos (List.any_eq_true.2 ⟨_, List.getElem_mem h, hp⟩), lead_stop hl (fun _ => by simp [hp])]
theorem idxOf_none {α : Type} {p : α → Bool} {l : List α} (h : l.any p = false) : idxOf p l = -1 := by rw [idxOf, if_neg (by simp [h])]
theorem idxOf_pos {α : Type} (p : α → Bool) (l : List α) : decide (0 ≤ idxOf p l) = l.any p := by
  unfold idxOf
  cases h : l.any p <;> simp

def idxA_J (f : FuncId) (cap : List AV) (p : Area → Bool) (l : List Area) (tl : Tail) (H : Heap) : Nat → Env → Heap → Prop := fun k env H1 => ∃ i : Nat, i ≤ l.length ∧ i ≤ lead (fun x => !p x) l ∧ (l.take i).any p = false ∧ env = [(0, .slice 8 (l.map Area.av) tl), (1, .func f cap), (7, .int .i64 l.length), (8, .int .i64 i)] ∧ H = H1 ∧ k = l.length - i

set_option maxRecDepth 100000 in
theorem IndexFuncA_calls (f : FuncId) (cap : List AV) (p : Area → Bool) (l : List Area) (tl : Tail) (H : Heap) (hlen : l.length ≤ 1000000000) (hent : ∀ args w, (callFunc f args).run Try.prog w = .ok (.enter f args) w) (hf : ∀ x, x ∈ l → ACall Try.prog f ([x.av] ++ cap) H (fun y H' => y = .bool (p x) ∧ H' = H)) : ACall Try.prog 66 [.slice 8 (l.map Area.av) tl, .func f cap] H (fun x H' => x = .int .i64 (idxOf p l) ∧ H' = H) := by
  refine ACall.of_body Try.func66 rfl Try.ntmps66 Try.results66 rfl ?_
  refine AWP.seq ?_
  -- region 0
  refine AWP.region ?_
  refine AList.p rfl (pure_assign ev_int) ?_
  refine AList.nil ?_
  refine Next.go ?_
  refine AWP.seq ?_
  refine AWP.seq ?_
  -- region 1
  refine AWP.region ?_
  refine AList.p rfl (pure_move (.tmp _ _ rfl)) ?_
  first | (refine AList.p rfl (pure_lenL Try.underlying39 (.tmp _ _ rfl)) ?_) | (refine AList.p rfl (pure_lenS Try.underlying39 (.tmp _ _ rfl)) ?_) | (refine AList.p rfl (pure_lenM Try.underlying39 (.tmp _ _ rfl)) ?_)
  refine AList.p rfl (pure_move ev_int) ?_
  refine AList.nil ?_
  refine Next.go ?_
  refine AWP.block ?_
  -- L0
  refine AWP.loopW (idxA_J f cap p l tl H) (l.length) ⟨0, Nat.zero_le _, Nat.zero_le _, by simp, rfl, rfl, by omega⟩ (sub_c rfl (sub_c rfl (sub_c rfl (sub_c rfl sub_n)))) (Heap.le.refl _) ?_
  rintro _ _ _ ⟨i, hi, hil, hp, rfl, rfl, rfl⟩
  refine AWP.seq ?_
  -- region 2
  refine AWP.region ?_
  refine AList.p rfl (pure_lss (.tmp _ _ rfl) (.tmp _ _ rfl)) ?_
  refine AList.nil ?_
  refine Next.go ?_
  refine AWP.seq ?_
  -- c0
  refine AWP.cond (.tmp _ _ rfl) (fun hc9 => ?_) (fun hc9 => ?_)
  · try simp only [decide_eq_true_eq] at hc9
    refine AWP.skip ?_
    refine Next.go ?_
    refine AWP.seq ?_
    refine AWP.block ?_
    refine AWP.seq ?_
    -- region 3
    refine AWP.region ?_
    refine AList.p rfl (pure_move (.tmp _ _ rfl)) ?_
    refine AList.p rfl (pure_assign (.tmp _ _ rfl)) ?_
    refine AList.nil ?_
    refine Next.go ?_
    refine AWP.seq ?_
    -- region 4
    refine AWP.region ?_
    refine AList.p rfl (pure_move (.tmp _ _ rfl)) ?_
    refine AList.p rfl (pure_move (.tmp _ _ rfl)) ?_
    refine AList.p rfl (pure_move (.tmp _ _ rfl)) ?_
    first | (refine AList.p rfl (pure_indexL Try.underlying39 Try.sizeOf52 (.tmp _ _ rfl) (.tmp _ _ rfl) (by omega) (by omega)) ?_) | (refine AList.p rfl (pure_indexM Try.underlying39 Try.sizeOf52 (.tmp _ _ rfl) (.tmp _ _ rfl) (by omega) (by omega)) ?_)
    first | (refine AList.p rfl (pure_loadN Try.isAgg52 Try.sizeOf52 (.tmp _ _ rfl) (Nat.le_of_ble_eq_true rfl)) ?_) | (refine AList.s rfl (step_loadN Try.isAgg52 Try.sizeOf52 (.tmp _ _ rfl) (by first | assumption | exact (by assumption : Heap.le _ _).objs _ _ (by assumption) | exact Heap.objs_set_same _ _ _ | exact (Heap.objs_set_ne _ _ (by assumption)).trans (Heap.objs_set_same _ _ _) | exact (Heap.objs_set_ne _ _ (by assumption)).trans ((Heap.objs_set_ne _ _ (by assumption)).trans (Heap.objs_set_same _ _ _)) | exact (Heap.objs_set_ne _ _ (by assumption)).trans (by assumption)) (Nat.le_of_ble_eq_true rfl)) ?_; rintro _ _ ⟨rfl, hH⟩; obtain rfl := hH.symm)
    refine AList.s rfl (step_call hent (.tmp _ _ rfl) (.cons (.tmp _ _ rfl) .nil) (hf _ (List.getElem_mem _))) ?_
    rintro _ _ ⟨rfl, hH⟩
    obtain rfl := hH.symm
    refine AList.nil ?_
    refine Next.go ?_
    -- c1
    refine AWP.cond (.tmp _ _ rfl) (fun hc16 => ?_) (fun hc16 => ?_)
    · try simp only [decide_eq_true_eq, decide_eq_false_iff_not, Bool.not_eq_true', Bool.not_eq_false', Int.not_lt, Int.not_le, ne_eq, Decidable.not_not] at hc16
      refine AWP.seq ?_
      -- region 5
      refine AWP.region ?_
      refine AList.p rfl (pure_move (.tmp _ _ rfl)) ?_
      refine AList.p rfl (pure_assign (.tmp _ _ rfl)) ?_
      refine AList.nil ?_
      refine Next.go ?_
      refine AWP.ret ?_
      refine Block.rt ?_
      refine Next.rt ?_
      refine Next.rt ?_
      refine Block.rt ?_
      refine Next.rt ?_
      -- ret 0
      refine Ret.go (.cons (.tmp _ _ rfl) .nil) _ (Heap.le.refl _) ?_
      refine ⟨?_, rfl⟩
      rw [idxOf_some (show i < l.length by omega) hil (by simpa using hc16)]
      rfl
    · try simp only [decide_eq_true_eq, decide_eq_false_iff_not, Bool.not_eq_true', Bool.not_eq_false', Int.not_lt, Int.not_le, ne_eq, Decidable.not_not] at hc16
      refine AWP.skip ?_
      refine Block.go ?_
      refine Next.go ?_
      -- region 6
      refine AWP.region ?_
      refine AList.p rfl (pure_add (.tmp _ _ rfl) ev_int (by omega)) ?_
      refine AList.p rfl (pure_move (.tmp _ _ rfl)) ?_
      refine AList.nil ?_
      refine Next.go ?_
      refine Round.mk (J := idxA_J f cap p l tl H) ⟨i + 1, by omega, lead_next hil (by omega) (by simpa using hc16), by rw [take_succ_get l i (by omega), List.any_append, hp]; simpa using hc16, rfl, rfl, rfl⟩ (sub_c rfl (sub_c rfl (sub_c rfl (sub_c rfl sub_n)))) (Heap.le.refl _) (by omega)
  · try simp only [decide_eq_false_iff_not, Int.not_lt] at hc9
    refine AWP.exit ?_
    refine Next.ex ?_
    refine Next.ex ?_
    refine Block.hit ?_
    refine Next.go ?_
    refine AWP.seq ?_
    -- region 7
    refine AWP.region ?_
    refine AList.p rfl (pure_assign ev_int) ?_
    refine AList.nil ?_
    refine Next.go ?_
    refine AWP.ret ?_
    -- ret 1
    refine Ret.go (.cons (.tmp _ _ rfl) .nil) _ (Heap.le.refl _) ?_
    refine ⟨?_, rfl⟩
    rw [List.take_of_length_le (by omega)] at hp
    rw [idxOf_none hp]
    rfl

set_option maxRecDepth 100000 in
theorem ContainsFuncA_calls (f : FuncId) (cap : List AV) (p : Area → Bool) (l : List Area) (tl : Tail) (H : Heap) (hlen : l.length ≤ 1000000000) (hent : ∀ args w, (callFunc f args).run Try.prog w = .ok (.enter f args) w) (hf : ∀ x, x ∈ l → ACall Try.prog f ([x.av] ++ cap) H (fun y H' => y = .bool (p x) ∧ H' = H)) : ACall Try.prog 51 [.slice 8 (l.map Area.av) tl, .func f cap] H (fun x H' => x = .bool (l.any p) ∧ H' = H) := by
  refine ACall.of_body Try.func51 rfl Try.ntmps51 Try.results51 rfl ?_
  refine AWP.seq ?_
  -- region 0
  refine AWP.region ?_
  refine AList.p rfl (pure_assign ev_bool) ?_
  refine AList.nil ?_
  refine Next.go ?_
  refine AWP.seq ?_
  -- region 1
  refine AWP.region ?_
  refine AList.p rfl (pure_move (.tmp _ _ rfl)) ?_
  refine AList.p rfl (pure_move (.tmp _ _ rfl)) ?_
  refine AList.s rfl (step_call0 Try.call66 (.cons (.tmp _ _ rfl) (.cons (.tmp _ _ rfl) .nil)) (IndexFuncA_calls _ _ _ _ _ _ hlen hent hf)) ?_
  rintro _ _ ⟨rfl, hH⟩
  obtain rfl := hH.symm
  refine AList.p rfl (pure_geq (.tmp _ _ rfl) ev_int) ?_
  refine AList.p rfl (pure_assign (.tmp _ _ rfl)) ?_
  refine AList.nil ?_
  refine Next.go ?_
  refine AWP.ret ?_
  -- ret 0
  refine Ret.go (.cons (.tmp _ _ rfl) .nil) _ (Heap.le.refl _) ?_
  refine ⟨?_, rfl⟩
  show AV.bool _ = _
  rw [← idxOf_pos p l]

def idxI_J (f : FuncId) (cap : List AV) (p : Int → Bool) (l : List Int) (tl : Tail) (H : Heap) : Nat → Env → Heap → Prop := fun k env H1 => ∃ i : Nat, i ≤ l.length ∧ i ≤ lead (fun x => !p x) l ∧ (l.take i).any p = false ∧ env = [(0, .slice 1 (l.map (.int .i64)) tl), (1, .func f cap), (7, .int .i64 l.length), (8, .int .i64 i)] ∧ H = H1 ∧ k = l.length - i

set_option maxRecDepth 100000 in
theorem IndexFuncI_calls (f : FuncId) (cap : List AV) (p : Int → Bool) (l : List Int) (tl : Tail) (H : Heap) (hlen : l.length ≤ 1000000000) (hent : ∀ args w, (callFunc f args).run Try.prog w = .ok (.enter f args) w) (hf : ∀ x, x ∈ l → ACall Try.prog f ([.int .i64 x] ++ cap) H (fun y H' => y = .bool (p x) ∧ H' = H)) : ACall Try.prog 38 [.slice 1 (l.map (.int .i64)) tl, .func f cap] H (fun x H' => x = .int .i64 (idxOf p l) ∧ H' = H) := by
  refine ACall.of_body Try.func38 rfl Try.ntmps38 Try.results38 rfl ?_
  refine AWP.seq ?_
  -- region 0
  refine AWP.region ?_
  refine AList.p rfl (pure_assign ev_int) ?_
  refine AList.nil ?_
  refine Next.go ?_
  refine AWP.seq ?_
  refine AWP.seq ?_
  -- region 1
  refine AWP.region ?_
  refine AList.p rfl (pure_move (.tmp _ _ rfl)) ?_
  first | (refine AList.p rfl (pure_lenL Try.underlying23 (.tmp _ _ rfl)) ?_) | (refine AList.p rfl (pure_lenS Try.underlying23 (.tmp _ _ rfl)) ?_) | (refine AList.p rfl (pure_lenM Try.underlying23 (.tmp _ _ rfl)) ?_)
  refine AList.p rfl (pure_move ev_int) ?_
  refine AList.nil ?_
  refine Next.go ?_
  refine AWP.block ?_
  -- L0
  refine AWP.loopW (idxI_J f cap p l tl H) (l.length) ⟨0, Nat.zero_le _, Nat.zero_le _, by simp, rfl, rfl, by omega⟩ (sub_c rfl (sub_c rfl (sub_c rfl (sub_c rfl sub_n)))) (Heap.le.refl _) ?_
  rintro _ _ _ ⟨i, hi, hil, hp, rfl, rfl, rfl⟩
  refine AWP.seq ?_
  -- region 2
  refine AWP.region ?_
  refine AList.p rfl (pure_lss (.tmp _ _ rfl) (.tmp _ _ rfl)) ?_
  refine AList.nil ?_
  refine Next.go ?_
  refine AWP.seq ?_
  -- c0
  refine AWP.cond (.tmp _ _ rfl) (fun hc9 => ?_) (fun hc9 => ?_)
  · try simp only [decide_eq_true_eq] at hc9
    refine AWP.skip ?_
    refine Next.go ?_
    refine AWP.seq ?_
    refine AWP.block ?_
    refine AWP.seq ?_
    -- region 3
    refine AWP.region ?_
    refine AList.p rfl (pure_move (.tmp _ _ rfl)) ?_
    refine AList.p rfl (pure_assign (.tmp _ _ rfl)) ?_
    refine AList.nil ?_
    refine Next.go ?_
    refine AWP.seq ?_
    -- region 4
    refine AWP.region ?_
    refine AList.p rfl (pure_move (.tmp _ _ rfl)) ?_
    refine AList.p rfl (pure_move (.tmp _ _ rfl)) ?_
    refine AList.p rfl (pure_move (.tmp _ _ rfl)) ?_
    first | (refine AList.p rfl (pure_indexL Try.underlying23 Try.sizeOf3 (.tmp _ _ rfl) (.tmp _ _ rfl) (by omega) (by omega)) ?_) | (refine AList.p rfl (pure_indexM Try.underlying23 Try.sizeOf3 (.tmp _ _ rfl) (.tmp _ _ rfl) (by omega) (by omega)) ?_)
    first | (refine AList.p rfl (pure_load1 Try.isAgg3 (.tmp _ _ rfl)) ?_) | (refine AList.s rfl (step_load1 Try.isAgg3 (.tmp _ _ rfl) (by first | assumption | exact (by assumption : Heap.le _ _).objs _ _ (by assumption) | exact Heap.objs_set_same _ _ _ | exact (Heap.objs_set_ne _ _ (by assumption)).trans (Heap.objs_set_same _ _ _) | exact (Heap.objs_set_ne _ _ (by assumption)).trans ((Heap.objs_set_ne _ _ (by assumption)).trans (Heap.objs_set_same _ _ _)) | exact (Heap.objs_set_ne _ _ (by assumption)).trans (by assumption)) rfl) ?_; rintro _ _ ⟨rfl, hH⟩; obtain rfl := hH.symm)
    refine AList.s rfl (step_call hent (.tmp _ _ rfl) (.cons (.tmp _ _ rfl) .nil) (hf _ (List.getElem_mem _))) ?_
    rintro _ _ ⟨rfl, hH⟩
    obtain rfl := hH.symm
    refine AList.nil ?_
    refine Next.go ?_
    -- c1
    refine AWP.cond (.tmp _ _ rfl) (fun hc16 => ?_) (fun hc16 => ?_)
    · try simp only [decide_eq_true_eq, decide_eq_false_iff_not, Bool.not_eq_true', Bool.not_eq_false', Int.not_lt, Int.not_le, ne_eq, Decidable.not_not] at hc16
      refine AWP.seq ?_
      -- region 5
      refine AWP.region ?_
      refine AList.p rfl (pure_move (.tmp _ _ rfl)) ?_
      refine AList.p rfl (pure_assign (.tmp _ _ rfl)) ?_
      refine AList.nil ?_
      refine Next.go ?_
      refine AWP.ret ?_
      refine Block.rt ?_
      refine Next.rt ?_
      refine Next.rt ?_
      refine Block.rt ?_
      refine Next.rt ?_
      -- ret 0
      refine Ret.go (.cons (.tmp _ _ rfl) .nil) _ (Heap.le.refl _) ?_
      refine ⟨?_, rfl⟩
      rw [idxOf_some (show i < l.length by omega) hil (by simpa using hc16)]
      rfl
    · try simp only [decide_eq_true_eq, decide_eq_false_iff_not, Bool.not_eq_true', Bool.not_eq_false', Int.not_lt, Int.not_le, ne_eq, Decidable.not_not] at hc16
      refine AWP.skip ?_
      refine Block.go ?_
      refine Next.go ?_
      -- region 6
      refine AWP.region ?_
      refine AList.p rfl (pure_add (.tmp _ _ rfl) ev_int (by omega)) ?_
      refine AList.p rfl (pure_move (.tmp _ _ rfl)) ?_
      refine AList.nil ?_
      refine Next.go ?_
      refine Round.mk (J := idxI_J f cap p l tl H) ⟨i + 1, by omega, lead_next hil (by omega) (by simpa using hc16), by rw [take_succ_get l i (by omega), List.any_append, hp]; simpa using hc16, rfl, rfl, rfl⟩ (sub_c rfl (sub_c rfl (sub_c rfl (sub_c rfl sub_n)))) (Heap.le.refl _) (by omega)
  · try simp only [decide_eq_false_iff_not, Int.not_lt] at hc9
    refine AWP.exit ?_
    refine Next.ex ?_
    refine Next.ex ?_
    refine Block.hit ?_
    refine Next.go ?_
    refine AWP.seq ?_
    -- region 7
    refine AWP.region ?_
    refine AList.p rfl (pure_assign ev_int) ?_
    refine AList.nil ?_
    refine Next.go ?_
    refine AWP.ret ?_
    -- ret 1
    refine Ret.go (.cons (.tmp _ _ rfl) .nil) _ (Heap.le.refl _) ?_
    refine ⟨?_, rfl⟩
    rw [List.take_of_length_le (by omega)] at hp
    rw [idxOf_none hp]
    rfl

set_option maxRecDepth 100000 in
theorem ContainsFuncI_calls (f : FuncId) (cap : List AV) (p : Int → Bool) (l : List Int) (tl : Tail) (H : Heap) (hlen : l.length ≤ 1000000000) (hent : ∀ args w, (callFunc f args).run Try.prog w = .ok (.enter f args) w) (hf : ∀ x, x ∈ l → ACall Try.prog f ([.int .i64 x] ++ cap) H (fun y H' => y = .bool (p x) ∧ H' = H)) : ACall Try.prog 40 [.slice 1 (l.map (.int .i64)) tl, .func f cap] H (fun x H' => x = .bool (l.any p) ∧ H' = H) := by
  refine ACall.of_body Try.func40 rfl Try.ntmps40 Try.results40 rfl ?_
  refine AWP.seq ?_
  -- region 0
  refine AWP.region ?_
  refine AList.p rfl (pure_assign ev_bool) ?_
  refine AList.nil ?_
  refine Next.go ?_
  refine AWP.seq ?_
  -- region 1
  refine AWP.region ?_
  refine AList.p rfl (pure_move (.tmp _ _ rfl)) ?_
  refine AList.p rfl (pure_move (.tmp _ _ rfl)) ?_
  refine AList.s rfl (step_call0 Try.call38 (.cons (.tmp _ _ rfl) (.cons (.tmp _ _ rfl) .nil)) (IndexFuncI_calls _ _ _ _ _ _ hlen hent hf)) ?_
  rintro _ _ ⟨rfl, hH⟩
  obtain rfl := hH.symm
  refine AList.p rfl (pure_geq (.tmp _ _ rfl) ev_int) ?_
  refine AList.p rfl (pure_assign (.tmp _ _ rfl)) ?_
  refine AList.nil ?_
  refine Next.go ?_
  refine AWP.ret ?_
  -- ret 0
  refine Ret.go (.cons (.tmp _ _ rfl) .nil) _ (Heap.le.refl _) ?_
  refine ⟨?_, rfl⟩
  show AV.bool _ = _
  rw [← idxOf_pos p l]

set_option maxRecDepth 100000 in
theorem SetNot_calls (x : Area) (H : Heap) : ACall Try.prog 52 [x.av] H (fun y H' => y = .bool (!x.ok) ∧ H' = H) := by
  refine ACall.of_body Try.func52 rfl Try.ntmps52 Try.results52 rfl ?_
  refine AWP.seq ?_
  -- region 0
  refine AWP.region ?_
  refine AList.s rfl (step_boxI (.tmp _ _ rfl) (.inr ⟨_, rfl⟩)) ?_
  rintro _ _ ⟨rfl, hH⟩
  obtain rfl := hH.symm
  refine AList.p rfl (pure_assign ev_bool) ?_
  refine AList.nil ?_
  refine Next.go ?_
  refine AWP.seq ?_
  -- region 1
  refine AWP.region ?_
  first | (refine AList.p rfl (pure_loadN Try.isAgg52 Try.sizeOf52 (.tmp _ _ rfl) (Nat.le_of_ble_eq_true rfl)) ?_) | (refine AList.s rfl (step_loadN Try.isAgg52 Try.sizeOf52 (.tmp _ _ rfl) (by first | assumption | exact (by assumption : Heap.le _ _).objs _ _ (by assumption) | exact Heap.objs_set_same _ _ _ | exact (Heap.objs_set_ne _ _ (by assumption)).trans (Heap.objs_set_same _ _ _) | exact (Heap.objs_set_ne _ _ (by assumption)).trans ((Heap.objs_set_ne _ _ (by assumption)).trans (Heap.objs_set_same _ _ _)) | exact (Heap.objs_set_ne _ _ (by assumption)).trans (by assumption)) (Nat.le_of_ble_eq_true rfl)) ?_; rintro _ _ ⟨rfl, hH⟩; obtain rfl := hH.symm)
  refine AList.s rfl (step_call0 Try.call53 (.cons (.tmp _ _ rfl) .nil) (right_calls ⟨⟨_, _, _, _⟩, ⟨_, _, _, _⟩⟩ _)) ?_
  rintro _ _ ⟨rfl, hH⟩
  obtain rfl := hH.symm
  refine AList.p rfl (pure_not (.tmp _ _ rfl)) ?_
  refine AList.p rfl (pure_assign (.tmp _ _ rfl)) ?_
  refine AList.nil ?_
  refine Next.go ?_
  refine AWP.ret ?_
  -- ret 0
  refine Ret.go (.cons (.tmp _ _ rfl) .nil) _ (Heap.le.refl _) ?_
  exact ⟨rfl, rfl⟩

set_option maxRecDepth 100000 in
theorem needsIn_calls (x : Area) (r : Ref) (H : Heap) : ACall Try.prog 62 [x.av, .iptr r.cs] H (fun y H' => y = .bool (Inside r x.a x.b) ∧ H' = H) := by
  refine ACall.of_body Try.func62 rfl Try.ntmps62 Try.results62 rfl ?_
  refine AWP.seq ?_
  -- region 0
  refine AWP.region ?_
  refine AList.s rfl (step_boxI (.tmp _ _ rfl) (.inr ⟨_, rfl⟩)) ?_
  rintro _ _ ⟨rfl, hH⟩
  obtain rfl := hH.symm
  refine AList.p rfl (pure_assign ev_bool) ?_
  refine AList.nil ?_
  refine Next.go ?_
  refine AWP.seq ?_
  -- region 1
  refine AWP.region ?_
  first | (refine AList.p rfl (pure_loadN Try.isAgg50 Try.sizeOf50 (.tmp _ _ rfl) (Nat.le_of_ble_eq_true rfl)) ?_) | (refine AList.s rfl (step_loadN Try.isAgg50 Try.sizeOf50 (.tmp _ _ rfl) (by first | assumption | exact (by assumption : Heap.le _ _).objs _ _ (by assumption) | exact Heap.objs_set_same _ _ _ | exact (Heap.objs_set_ne _ _ (by assumption)).trans (Heap.objs_set_same _ _ _) | exact (Heap.objs_set_ne _ _ (by assumption)).trans ((Heap.objs_set_ne _ _ (by assumption)).trans (Heap.objs_set_same _ _ _)) | exact (Heap.objs_set_ne _ _ (by assumption)).trans (by assumption)) (Nat.le_of_ble_eq_true rfl)) ?_; rintro _ _ ⟨rfl, hH⟩; obtain rfl := hH.symm)
  first | (refine AList.p rfl (pure_fieldI Try.underlying52 rfl Try.sizeOf50 (.tmp _ _ rfl)) ?_) | (refine AList.p rfl (pure_field Try.underlying52 rfl Try.sizeOf50 (.tmp _ _ rfl)) ?_)
  first | (refine AList.p rfl (pure_loadN Try.isAgg50 Try.sizeOf50 (.tmp _ _ rfl) (Nat.le_of_ble_eq_true rfl)) ?_) | (refine AList.s rfl (step_loadN Try.isAgg50 Try.sizeOf50 (.tmp _ _ rfl) (by first | assumption | exact (by assumption : Heap.le _ _).objs _ _ (by assumption) | exact Heap.objs_set_same _ _ _ | exact (Heap.objs_set_ne _ _ (by assumption)).trans (Heap.objs_set_same _ _ _) | exact (Heap.objs_set_ne _ _ (by assumption)).trans ((Heap.objs_set_ne _ _ (by assumption)).trans (Heap.objs_set_same _ _ _)) | exact (Heap.objs_set_ne _ _ (by assumption)).trans (by assumption)) (Nat.le_of_ble_eq_true rfl)) ?_; rintro _ _ ⟨rfl, hH⟩; obtain rfl := hH.symm)
  first | (refine AList.p rfl (pure_fieldI Try.underlying52 rfl Try.sizeOf50 (.tmp _ _ rfl)) ?_) | (refine AList.p rfl (pure_field Try.underlying52 rfl Try.sizeOf50 (.tmp _ _ rfl)) ?_)
  first | (refine AList.p rfl (pure_loadN Try.isAgg50 Try.sizeOf50 (.tmp _ _ rfl) (Nat.le_of_ble_eq_true rfl)) ?_) | (refine AList.s rfl (step_loadN Try.isAgg50 Try.sizeOf50 (.tmp _ _ rfl) (by first | assumption | exact (by assumption : Heap.le _ _).objs _ _ (by assumption) | exact Heap.objs_set_same _ _ _ | exact (Heap.objs_set_ne _ _ (by assumption)).trans (Heap.objs_set_same _ _ _) | exact (Heap.objs_set_ne _ _ (by assumption)).trans ((Heap.objs_set_ne _ _ (by assumption)).trans (Heap.objs_set_same _ _ _)) | exact (Heap.objs_set_ne _ _ (by assumption)).trans (by assumption)) (Nat.le_of_ble_eq_true rfl)) ?_; rintro _ _ ⟨rfl, hH⟩; obtain rfl := hH.symm)
  refine AList.s rfl (step_call0 Try.call63 (.cons (.tmp _ _ rfl) (.cons (.tmp _ _ rfl) (.cons (.tmp _ _ rfl) .nil))) (Inside_calls ⟨_, _, _, _⟩ ⟨_, _, _, _⟩ ⟨_, _, _, _⟩ _)) ?_
  rintro _ _ ⟨rfl, hH⟩
  obtain rfl := hH.symm
  refine AList.p rfl (pure_assign (.tmp _ _ rfl)) ?_
  refine AList.nil ?_
  refine Next.go ?_
  refine AWP.ret ?_
  -- ret 0
  refine Ret.go (.cons (.tmp _ _ rfl) .nil) _ (Heap.le.refl _) ?_
  exact ⟨rfl, rfl⟩

set_option maxRecDepth 100000 in
theorem CloneA_calls (l : List Area) (tl : Tail) (H : Heap) (hlen : l.length ≤ 1000000) : ACall Try.prog 47 [.slice 8 (l.map Area.av) tl] H (fun x H' => x = .slice 8 (l.map Area.av) .shared ∧ H' = H) := by
  refine ACall.of_body Try.func47 rfl Try.ntmps47 Try.results47 rfl ?_
  refine AWP.seq ?_
  -- region 0
  refine AWP.region ?_
  refine AList.p rfl (pure_assign (ev_nil (sz := 8) (tl := .full))) ?_
  refine AList.nil ?_
  refine Next.go ?_
  refine AWP.seq ?_
  refine AWP.seq ?_
  -- region 1
  refine AWP.region ?_
  refine AList.p rfl (pure_move (.tmp _ _ rfl)) ?_
  refine AList.s rfl (step_eqlNS Try.underlying39 (.tmp _ _ rfl)) ?_
  rintro _ _ ⟨bn4, hn4, rfl, hH⟩
  obtain rfl := hH.symm
  refine AList.nil ?_
  refine Next.go ?_
  -- c0
  refine AWP.cond (.tmp _ _ rfl) (fun hc4 => ?_) (fun hc4 => ?_)
  · try simp only [decide_eq_true_eq, decide_eq_false_iff_not, Bool.not_eq_true', Bool.not_eq_false', Int.not_lt, Int.not_le, ne_eq, Decidable.not_not] at hc4
    refine AWP.seq ?_
    -- region 2
    refine AWP.region ?_
    refine AList.p rfl (pure_assign (ev_nil (sz := 8) (tl := .full))) ?_
    refine AList.nil ?_
    refine Next.go ?_
    refine AWP.ret ?_
    refine Next.rt ?_
    -- ret 0
    refine Ret.go (.cons (.weak _ _ _ rfl (.slice _ _ _)) .nil) _ (Heap.le.refl _) ?_
    refine ⟨?_, rfl⟩
    have hl0 := hn4 hc4
    rw [hl0]
    rfl
  · try simp only [decide_eq_true_eq, decide_eq_false_iff_not, Bool.not_eq_true', Bool.not_eq_false', Int.not_lt, Int.not_le, ne_eq, Decidable.not_not] at hc4
    refine AWP.skip ?_
    refine Next.go ?_
    refine AWP.seq ?_
    -- region 3
    refine AWP.region ?_
    refine AList.s rfl (step_bs0 Try.underlying39 Try.sizeOf52 Try.zeroValue52 ) ?_
    rintro _ _ ⟨rfl, hH⟩
    obtain rfl := hH.symm
    refine AList.p rfl (pure_move (.tmp _ _ rfl)) ?_
    refine AList.s rfl (step_appendS Try.underlying39 Try.underlying39 Try.sizeOf52 Try.typeInfo52 Try.zeroValue52 rfl (by decide) (.tmp _ _ rfl) (.tmp _ _ rfl) (by show (_ + _) * 48 ≤ _; simp; omega) (by repeat' (first | exact row_int _ | exact row_n | exact row_c ⟨rfl, rfl⟩ row_n | exact row_drop (row_int _) | exact row_take (row_int _) | refine row_app ?_ ?_ | exact row_n)) (by repeat' (first | exact row_int _ | exact row_n | exact row_c ⟨rfl, rfl⟩ row_n | exact row_drop (row_int _) | exact row_take (row_int _) | refine row_app ?_ ?_ | exact row_area _))) ?_
    rintro _ _ ⟨rfl, hH⟩
    obtain rfl := hH.symm
    refine AList.p rfl (pure_assign (.tmp _ _ rfl)) ?_
    refine AList.nil ?_
    refine Next.go ?_
    refine AWP.ret ?_
    -- ret 1
    refine Ret.go (.cons (.weak _ _ _ rfl (.slice _ _ _)) .nil) _ (Heap.le.refl _) ?_
    exact ⟨rfl, rfl⟩

set_option maxRecDepth 100000 in
theorem CloneI_calls (l : List Int) (tl : Tail) (H : Heap) (hlen : l.length ≤ 1000000) : ACall Try.prog 33 [.slice 1 (l.map (.int .i64)) tl] H (fun x H' => x = .slice 1 (l.map (.int .i64)) .shared ∧ H' = H) := by
  refine ACall.of_body Try.func33 rfl Try.ntmps33 Try.results33 rfl ?_
  refine AWP.seq ?_
  -- region 0
  refine AWP.region ?_
  refine AList.p rfl (pure_assign (ev_nil (sz := 1) (tl := .full))) ?_
  refine AList.nil ?_
  refine Next.go ?_
  refine AWP.seq ?_
  refine AWP.seq ?_
  -- region 1
  refine AWP.region ?_
  refine AList.p rfl (pure_move (.tmp _ _ rfl)) ?_
  refine AList.s rfl (step_eqlNS Try.underlying23 (.tmp _ _ rfl)) ?_
  rintro _ _ ⟨bn4, hn4, rfl, hH⟩
  obtain rfl := hH.symm
  refine AList.nil ?_
  refine Next.go ?_
  -- c0
  refine AWP.cond (.tmp _ _ rfl) (fun hc4 => ?_) (fun hc4 => ?_)
  · try simp only [decide_eq_true_eq, decide_eq_false_iff_not, Bool.not_eq_true', Bool.not_eq_false', Int.not_lt, Int.not_le, ne_eq, Decidable.not_not] at hc4
    refine AWP.seq ?_
    -- region 2
    refine AWP.region ?_
    refine AList.p rfl (pure_assign (ev_nil (sz := 1) (tl := .full))) ?_
    refine AList.nil ?_
    refine Next.go ?_
    refine AWP.ret ?_
    refine Next.rt ?_
    -- ret 0
    refine Ret.go (.cons (.weak _ _ _ rfl (.slice _ _ _)) .nil) _ (Heap.le.refl _) ?_
    refine ⟨?_, rfl⟩
    have hl0 := hn4 hc4
    rw [hl0]
    rfl
  · try simp only [decide_eq_true_eq, decide_eq_false_iff_not, Bool.not_eq_true', Bool.not_eq_false', Int.not_lt, Int.not_le, ne_eq, Decidable.not_not] at hc4
    refine AWP.skip ?_
    refine Next.go ?_
    refine AWP.seq ?_
    -- region 3
    refine AWP.region ?_
    refine AList.s rfl (step_bs0 Try.underlying23 Try.sizeOf3 Try.zeroValue3 ) ?_
    rintro _ _ ⟨rfl, hH⟩
    obtain rfl := hH.symm
    refine AList.p rfl (pure_move (.tmp _ _ rfl)) ?_
    refine AList.s rfl (step_appendS Try.underlying23 Try.underlying23 Try.sizeOf3 Try.typeInfo3 Try.zeroValue3 rfl (by decide) (.tmp _ _ rfl) (.tmp _ _ rfl) (by show (_ + _) * 8 ≤ _; simp; omega) (by repeat' (first | exact row_int _ | exact row_n | exact row_c ⟨rfl, rfl⟩ row_n | exact row_drop (row_int _) | exact row_take (row_int _) | refine row_app ?_ ?_ | exact row_n)) (by repeat' (first | exact row_int _ | exact row_n | exact row_c ⟨rfl, rfl⟩ row_n | exact row_drop (row_int _) | exact row_take (row_int _) | refine row_app ?_ ?_ | exact row_area _))) ?_
    rintro _ _ ⟨rfl, hH⟩
    obtain rfl := hH.symm
    refine AList.p rfl (pure_assign (.tmp _ _ rfl)) ?_
    refine AList.nil ?_
    refine Next.go ?_
    refine AWP.ret ?_
    -- ret 1
    refine Ret.go (.cons (.weak _ _ _ rfl (.slice _ _ _)) .nil) _ (Heap.le.refl _) ?_
    exact ⟨rfl, rfl⟩

end Go.Proofs.Ytdibiongjkmlpaa
