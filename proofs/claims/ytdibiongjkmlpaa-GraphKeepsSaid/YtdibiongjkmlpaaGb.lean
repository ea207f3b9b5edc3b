/-
  Loops over lists of numbers: of the law (same, some) and of the reference (Has, Rising).
-/
import Derived.Test.YtdibiongjkmlpaaGa
namespace Go.Proofs.Ytdibiongjkmlpaa
open Go Go.RowKit

theorem take_succ_get {α : Type} (l : List α) (i : Nat) (h : i < l.length) : l.take (i + 1) = l.take i ++ [l[i]] := by
  rw [List.take_add_one, List.getElem?_eq_getElem h]; rfl
theorem len_max {P : Program} {f : FuncId} {xs : List AV} {H : Heap} {R : AV → Heap → Prop} {sz : Nat} {ys : List AV} {tl : Tail} (i : Nat) (hi : xs[i]? = some (.slice sz ys tl)) (h : ys.length ≤ maxLen → ACall P f xs H R) : ACall P f xs H R := by
  intro g vs w hvs hs
  have hlt : i < vs.length := by rw [← hvs.1]; exact (List.getElem?_eq_some_iff.1 hi).1
  have hr := hvs.2 i _ _ hi (List.getElem?_eq_getElem hlt)
  have hb : ys.length ≤ maxLen := by
    generalize vs[i] = v at hr
    cases hr with
    | nilSlice => exact Nat.zero_le _
    | voidSlice => exact Nat.zero_le _
    | slice sz xs tl b off cap vs h1 h2 h3 h4 h5 h6 => exact Nat.le_trans h4 h5
  exact h hb g vs w hvs hs

def same_J (a b : List Int) (ta tb : Tail) (H : Heap) : Nat → Env → Heap → Prop := fun k env H1 => ∃ i : Nat, i ≤ a.length ∧ a.take i = b.take i ∧ env = [(0, .slice 1 (a.map (.int .i64)) ta), (1, .slice 1 (b.map (.int .i64)) tb), (5, .int .i64 i)] ∧ H = H1 ∧ k = a.length - i

set_option maxRecDepth 100000 in
theorem same_calls (a b : List Int) (ta tb : Tail) (ha : a.length ≤ maxLen) (H : Heap) : ACall Try.prog 12 [.slice 1 (a.map (.int .i64)) ta, .slice 1 (b.map (.int .i64)) tb] H (fun x H' => x = .bool (decide (a = b)) ∧ H' = H) := by
  unfold maxLen at ha
  refine ACall.of_body Try.func12 rfl Try.ntmps12 Try.results12 rfl ?_
  refine AWP.seq ?_
  -- region 0
  refine AWP.region ?_
  refine AList.p rfl (pure_assign ev_bool) ?_
  refine AList.nil ?_
  refine Next.go ?_
  refine AWP.seq ?_
  refine AWP.seq ?_
  -- region 1
  refine AWP.region ?_
  refine AList.p rfl (pure_move (.tmp _ _ rfl)) ?_
  first | (refine AList.p rfl (pure_lenL Try.underlying23 (.tmp _ _ rfl)) ?_) | (refine AList.p rfl (pure_lenS Try.underlying23 (.tmp _ _ rfl)) ?_) | (refine AList.p rfl (pure_lenM Try.underlying23 (.tmp _ _ rfl)) ?_)
  refine AList.p rfl (pure_move (.tmp _ _ rfl)) ?_
  first | (refine AList.p rfl (pure_lenL Try.underlying23 (.tmp _ _ rfl)) ?_) | (refine AList.p rfl (pure_lenS Try.underlying23 (.tmp _ _ rfl)) ?_) | (refine AList.p rfl (pure_lenM Try.underlying23 (.tmp _ _ rfl)) ?_)
  refine AList.p rfl (pure_neq (.tmp _ _ rfl) (.tmp _ _ rfl)) ?_
  refine AList.nil ?_
  refine Next.go ?_
  -- c0
  refine AWP.cond (.tmp _ _ rfl) (fun hc10 => ?_) (fun hc10 => ?_)
  · try simp only [decide_eq_true_eq, ne_eq] at hc10
    refine AWP.seq ?_
    -- region 2
    refine AWP.region ?_
    refine AList.p rfl (pure_assign ev_bool) ?_
    refine AList.nil ?_
    refine Next.go ?_
    refine AWP.ret ?_
    refine Next.rt ?_
    -- ret 0
    refine Ret.go (.cons (.tmp _ _ rfl) .nil) _ (Heap.le.refl _) ?_
    refine ⟨?_, rfl⟩
    have hne : a ≠ b := by rintro rfl; exact hc10 rfl
    simp [packed, hne]
  · try simp only [decide_eq_false_iff_not, ne_eq, Decidable.not_not] at hc10
    refine AWP.skip ?_
    refine Next.go ?_
    refine AWP.seq ?_
    refine AWP.seq ?_
    -- region 3
    refine AWP.region ?_
    refine AList.p rfl (pure_assign ev_int) ?_
    refine AList.nil ?_
    refine Next.go ?_
    refine AWP.block ?_
    -- L0
    refine AWP.loopW (same_J a b ta tb H) (a.length) ⟨0, Nat.zero_le _, by simp, rfl, rfl, by omega⟩ (sub_c rfl (sub_c rfl (sub_c rfl sub_n))) (Heap.le.refl _) ?_
    rintro _ _ H1 ⟨i, hi, hp, rfl, rfl, rfl⟩
    refine AWP.seq ?_
    refine AWP.seq ?_
    -- region 4
    refine AWP.region ?_
    refine AList.p rfl (pure_move (.tmp _ _ rfl)) ?_
    refine AList.p rfl (pure_move (.tmp _ _ rfl)) ?_
    first | (refine AList.p rfl (pure_lenL Try.underlying23 (.tmp _ _ rfl)) ?_) | (refine AList.p rfl (pure_lenS Try.underlying23 (.tmp _ _ rfl)) ?_) | (refine AList.p rfl (pure_lenM Try.underlying23 (.tmp _ _ rfl)) ?_)
    refine AList.p rfl (pure_lss (.tmp _ _ rfl) (.tmp _ _ rfl)) ?_
    refine AList.nil ?_
    refine Next.go ?_
    -- c1
    refine AWP.cond (.tmp _ _ rfl) (fun hc14 => ?_) (fun hc14 => ?_)
    · try simp only [decide_eq_true_eq] at hc14
      refine AWP.skip ?_
      refine Next.go ?_
      refine AWP.seq ?_
      refine AWP.block ?_
      refine AWP.seq ?_
      -- region 6
      refine AWP.draw [(0, true), (1, true), (2, true), (3, true), (4, true), (5, true), (6, true), (7, true), (8, true)] rfl (by decide +kernel) ?_
      refine APlan.p rfl rfl (pure_move (.tmp _ _ rfl)) ?_
      refine APlan.p rfl rfl (pure_move (.tmp _ _ rfl)) ?_
      first | (refine APlan.p rfl rfl (pure_indexL Try.underlying23 Try.sizeOf3 (.tmp _ _ rfl) (.tmp _ _ rfl) (by omega) (by omega)) ?_) | (refine APlan.p rfl rfl (pure_indexM Try.underlying23 Try.sizeOf3 (.tmp _ _ rfl) (.tmp _ _ rfl) (by omega) (by omega)) ?_)
      first | (refine APlan.p rfl rfl (pure_load1 Try.isAgg3 (.tmp _ _ rfl)) ?_) | (refine APlan.f rfl rfl (fun _ => step_load1 Try.isAgg3 (.tmp _ _ rfl) (by first | assumption | exact (by assumption : Heap.le _ _).objs _ _ (by assumption) | exact Heap.objs_set_same _ _ _ | exact (Heap.objs_set_ne _ _ (by assumption)).trans (Heap.objs_set_same _ _ _) | exact (Heap.objs_set_ne _ _ (by assumption)).trans ((Heap.objs_set_ne _ _ (by assumption)).trans (Heap.objs_set_same _ _ _)) | exact (Heap.objs_set_ne _ _ (by assumption)).trans (by assumption)) rfl) ?_)
      refine APlan.p rfl rfl (pure_move (.tmp _ _ rfl)) ?_
      refine APlan.p rfl rfl (pure_move (.tmp _ _ rfl)) ?_
      first | (refine APlan.p rfl rfl (pure_indexL Try.underlying23 Try.sizeOf3 (.tmp _ _ rfl) (.tmp _ _ rfl) (by omega) (by omega)) ?_) | (refine APlan.p rfl rfl (pure_indexM Try.underlying23 Try.sizeOf3 (.tmp _ _ rfl) (.tmp _ _ rfl) (by omega) (by omega)) ?_)
      first | (refine APlan.p rfl rfl (pure_load1 Try.isAgg3 (.tmp _ _ rfl)) ?_) | (refine APlan.f rfl rfl (fun _ => step_load1 Try.isAgg3 (.tmp _ _ rfl) (by first | assumption | exact (by assumption : Heap.le _ _).objs _ _ (by assumption) | exact Heap.objs_set_same _ _ _ | exact (Heap.objs_set_ne _ _ (by assumption)).trans (Heap.objs_set_same _ _ _) | exact (Heap.objs_set_ne _ _ (by assumption)).trans ((Heap.objs_set_ne _ _ (by assumption)).trans (Heap.objs_set_same _ _ _)) | exact (Heap.objs_set_ne _ _ (by assumption)).trans (by assumption)) rfl) ?_)
      refine APlan.p rfl rfl (pure_neq (.tmp _ _ rfl) (.tmp _ _ rfl)) ?_
      refine APlan.nil ?_
      refine Next.go ?_
      -- c2
      refine AWP.cond (.tmp _ _ rfl) (fun hc25 => ?_) (fun hc25 => ?_)
      · try simp only [decide_eq_true_eq, ne_eq] at hc25
        refine AWP.seq ?_
        -- region 7
        refine AWP.region ?_
        refine AList.p rfl (pure_assign ev_bool) ?_
        refine AList.nil ?_
        refine Next.go ?_
        refine AWP.ret ?_
        refine Block.rt ?_
        refine Next.rt ?_
        refine Next.rt ?_
        refine Block.rt ?_
        refine Next.rt ?_
        -- ret 1
        refine Ret.go (.cons (.tmp _ _ rfl) .nil) _ (Heap.le.refl _) ?_
        refine ⟨?_, rfl⟩
        have hne : a ≠ b := by rintro rfl; exact hc25 rfl
        simp [packed, hne]
      · try simp only [decide_eq_false_iff_not, ne_eq, Decidable.not_not] at hc25
        refine AWP.skip ?_
        refine Block.go ?_
        refine Next.go ?_
        -- region 5
        refine AWP.region ?_
        refine AList.p rfl (pure_move (.tmp _ _ rfl)) ?_
        refine AList.p rfl (pure_add (.tmp _ _ rfl) ev_int (by omega)) ?_
        refine AList.p rfl (pure_assign (.tmp _ _ rfl)) ?_
        refine AList.nil ?_
        refine Next.go ?_
        refine Round.mk (J := same_J a b ta tb H) ⟨i + 1, by omega, by rw [take_succ_get a i (by omega), take_succ_get b i (by omega), hp]; simp at hc25; rw [hc25], rfl, rfl, rfl⟩ (sub_c rfl (sub_c rfl (sub_c rfl sub_n))) (Heap.le.refl _) (by omega)
    · try simp only [decide_eq_false_iff_not, Int.not_lt] at hc14
      refine AWP.exit ?_
      refine Next.ex ?_
      refine Next.ex ?_
      refine Block.hit ?_
      refine Next.go ?_
      refine AWP.seq ?_
      -- region 8
      refine AWP.region ?_
      refine AList.p rfl (pure_assign ev_bool) ?_
      refine AList.nil ?_
      refine Next.go ?_
      refine AWP.ret ?_
      -- ret 2
      refine Ret.go (.cons (.tmp _ _ rfl) .nil) _ (Heap.le.refl _) ?_
      refine ⟨?_, rfl⟩
      have he : a = b := by rw [List.take_of_length_le (by omega), List.take_of_length_le (by omega)] at hp; exact hp
      simp [packed, he]

def has_J (l : List Int) (n : Int) (tl : Tail) (H : Heap) : Nat → Env → Heap → Prop := fun k env H1 => ∃ i : Nat, i ≤ l.length ∧ n ∉ l.take i ∧ env = [(0, .slice 1 (l.map (.int .i64)) tl), (1, .int .i64 n), (5, .int .i64 i)] ∧ H = H1 ∧ k = l.length - i

set_option maxRecDepth 100000 in
theorem Has_calls (l : List Int) (n : Int) (tl : Tail) (hl : l.length ≤ maxLen) (H : Heap) : ACall Try.prog 17 [.slice 1 (l.map (.int .i64)) tl, .int .i64 n] H (fun x H' => x = .bool (decide (n ∈ l)) ∧ H' = H) := by
  unfold maxLen at hl
  refine ACall.of_body Try.func17 rfl Try.ntmps17 Try.results17 rfl ?_
  refine AWP.seq ?_
  -- region 0
  refine AWP.region ?_
  refine AList.p rfl (pure_assign ev_bool) ?_
  refine AList.nil ?_
  refine Next.go ?_
  refine AWP.seq ?_
  refine AWP.seq ?_
  -- region 1
  refine AWP.region ?_
  refine AList.p rfl (pure_assign ev_int) ?_
  refine AList.nil ?_
  refine Next.go ?_
  refine AWP.block ?_
  -- L0
  refine AWP.loopW (has_J l n tl H) (l.length) ⟨0, Nat.zero_le _, by simp, rfl, rfl, by omega⟩ (sub_c rfl (sub_c rfl (sub_c rfl sub_n))) (Heap.le.refl _) ?_
  rintro _ _ H1 ⟨i, hi, hp, rfl, rfl, rfl⟩
  refine AWP.seq ?_
  refine AWP.seq ?_
  -- region 2
  refine AWP.region ?_
  refine AList.p rfl (pure_move (.tmp _ _ rfl)) ?_
  refine AList.p rfl (pure_move (.tmp _ _ rfl)) ?_
  first | (refine AList.p rfl (pure_lenL Try.underlying23 (.tmp _ _ rfl)) ?_) | (refine AList.p rfl (pure_lenS Try.underlying23 (.tmp _ _ rfl)) ?_) | (refine AList.p rfl (pure_lenM Try.underlying23 (.tmp _ _ rfl)) ?_)
  refine AList.p rfl (pure_lss (.tmp _ _ rfl) (.tmp _ _ rfl)) ?_
  refine AList.nil ?_
  refine Next.go ?_
  -- c0
  refine AWP.cond (.tmp _ _ rfl) (fun hc9 => ?_) (fun hc9 => ?_)
  · try simp only [decide_eq_true_eq] at hc9
    refine AWP.skip ?_
    refine Next.go ?_
    refine AWP.seq ?_
    refine AWP.block ?_
    refine AWP.seq ?_
    -- region 4
    refine AWP.region ?_
    refine AList.p rfl (pure_move (.tmp _ _ rfl)) ?_
    refine AList.p rfl (pure_move (.tmp _ _ rfl)) ?_
    first | (refine AList.p rfl (pure_indexL Try.underlying23 Try.sizeOf3 (.tmp _ _ rfl) (.tmp _ _ rfl) (by omega) (by omega)) ?_) | (refine AList.p rfl (pure_indexM Try.underlying23 Try.sizeOf3 (.tmp _ _ rfl) (.tmp _ _ rfl) (by omega) (by omega)) ?_)
    first | (refine AList.p rfl (pure_load1 Try.isAgg3 (.tmp _ _ rfl)) ?_) | (refine AList.s rfl (step_load1 Try.isAgg3 (.tmp _ _ rfl) (by first | assumption | exact (by assumption : Heap.le _ _).objs _ _ (by assumption) | exact Heap.objs_set_same _ _ _ | exact (Heap.objs_set_ne _ _ (by assumption)).trans (Heap.objs_set_same _ _ _) | exact (Heap.objs_set_ne _ _ (by assumption)).trans ((Heap.objs_set_ne _ _ (by assumption)).trans (Heap.objs_set_same _ _ _)) | exact (Heap.objs_set_ne _ _ (by assumption)).trans (by assumption)) rfl) ?_; rintro _ _ ⟨rfl, hH⟩; obtain rfl := hH.symm)
    refine AList.p rfl (pure_move (.tmp _ _ rfl)) ?_
    refine AList.p rfl (pure_eql (.tmp _ _ rfl) (.tmp _ _ rfl)) ?_
    refine AList.nil ?_
    refine Next.go ?_
    -- c1
    refine AWP.cond (.tmp _ _ rfl) (fun hc17 => ?_) (fun hc17 => ?_)
    · try simp only [decide_eq_true_eq] at hc17
      refine AWP.seq ?_
      -- region 5
      refine AWP.region ?_
      refine AList.p rfl (pure_assign ev_bool) ?_
      refine AList.nil ?_
      refine Next.go ?_
      refine AWP.ret ?_
      refine Block.rt ?_
      refine Next.rt ?_
      refine Next.rt ?_
      refine Block.rt ?_
      refine Next.rt ?_
      -- ret 0
      refine Ret.go (.cons (.tmp _ _ rfl) .nil) _ (Heap.le.refl _) ?_
      refine ⟨?_, rfl⟩
      have hm : n ∈ l := by rw [← hc17]; exact List.getElem_mem _
      simp [packed, hm]
    · try simp only [decide_eq_false_iff_not] at hc17
      refine AWP.skip ?_
      refine Block.go ?_
      refine Next.go ?_
      -- region 3
      refine AWP.region ?_
      refine AList.p rfl (pure_move (.tmp _ _ rfl)) ?_
      refine AList.p rfl (pure_add (.tmp _ _ rfl) ev_int (by omega)) ?_
      refine AList.p rfl (pure_assign (.tmp _ _ rfl)) ?_
      refine AList.nil ?_
      refine Next.go ?_
      refine Round.mk (J := has_J l n tl H) ⟨i + 1, by omega, by rw [take_succ_get l i (by omega)]; simp at hc17; simp only [List.mem_append, List.mem_singleton, not_or]; exact ⟨hp, fun e => hc17 e.symm⟩, rfl, rfl, rfl⟩ (sub_c rfl (sub_c rfl (sub_c rfl sub_n))) (Heap.le.refl _) (by omega)
  · try simp only [decide_eq_false_iff_not, Int.not_lt] at hc9
    refine AWP.exit ?_
    refine Next.ex ?_
    refine Next.ex ?_
    refine Block.hit ?_
    refine Next.go ?_
    refine AWP.seq ?_
    -- region 6
    refine AWP.region ?_
    refine AList.p rfl (pure_assign ev_bool) ?_
    refine AList.nil ?_
    refine Next.go ?_
    refine AWP.ret ?_
    -- ret 1
    refine Ret.go (.cons (.tmp _ _ rfl) .nil) _ (Heap.le.refl _) ?_
    refine ⟨?_, rfl⟩
    rw [List.take_of_length_le (by omega)] at hp
    simp [packed, hp]

def someF (x : Int) : Int := if x.tmod 17 = 0 then x else atRaw x
def someL (l : List Int) : List Int := (l.take 40).map someF
def I64s (l : List Int) : Prop := ∀ x, x ∈ l → -9223372036854775808 ≤ x ∧ x ≤ 9223372036854775807
theorem I64s.at {l : List Int} (h : I64s l) (i : Nat) (hi : i < l.length) : -9223372036854775808 ≤ l[i] ∧ l[i] ≤ 9223372036854775807 := h _ (List.getElem_mem hi)
def some_J (l : List Int) (tl : Tail) (H : Heap) : Nat → Env → Heap → Prop := fun k env H1 => ∃ (i t : Nat), i ≤ l.length ∧ i ≤ 40 ∧ env = [(0, .slice 1 (l.map (.int .i64)) tl), (3, .slice 1 (((l.take i).map someF).map (.int .i64)) (.own t)), (4, .int .i64 i)] ∧ H.le H1 ∧ H1.toks t = true ∧ H.toks t = false ∧ k = l.length - i

set_option maxRecDepth 100000 in
theorem some_calls (l : List Int) (tl : Tail) (hl : l.length ≤ maxLen) (hi64 : I64s l) (H : Heap) : ACall Try.prog 11 [.slice 1 (l.map (.int .i64)) tl] H (fun x H' => x = .slice 1 ((someL l).map (.int .i64)) .shared ∧ H = H') := by
  unfold maxLen at hl
  have hle0 := Heap.le.refl H
  refine ACall.of_body Try.func11 rfl Try.ntmps11 Try.results11 rfl ?_
  refine AWP.seq ?_
  -- region 0
  refine AWP.region ?_
  refine AList.p rfl (pure_assign (ev_nil (sz := 1) (tl := .full))) ?_
  refine AList.nil ?_
  refine Next.go ?_
  refine AWP.seq ?_
  -- region 1
  refine AWP.region ?_
  refine AList.p rfl (pure_assign (ev_nil (sz := 1) (tl := .full))) ?_
  refine AList.nil ?_
  refine Next.go ?_
  refine AWP.seq ?_
  refine AWP.seq ?_
  -- region 2
  refine AWP.region ?_
  refine AList.p rfl (pure_assign ev_int) ?_
  refine AList.nil ?_
  refine Next.go ?_
  refine AWP.block ?_
  -- L0
  refine AWP.tag (t := 3) rfl (fun u3 hu3 => ?_)
  have hfu3 := Heap.fresh_of hle0 hu3
  have hleu3 := Heap.le_in hle0 u3
  refine AWP.loopW (some_J l tl H) (l.length) ⟨0, u3, Nat.zero_le _, Nat.zero_le _, rfl, hleu3, Heap.toks_live_same _ _, hfu3, by omega⟩ (sub_c rfl (sub_c rfl (sub_c rfl sub_n))) (Heap.le.refl _) ?_
  rintro _ _ H1 ⟨i, t, hi, h40, rfl, hle, hlive, hfr, rfl⟩
  refine AWP.seq ?_
  refine AWP.seq ?_
  -- region 3
  refine AWP.region ?_
  refine AList.p rfl (pure_move (.tmp _ _ rfl)) ?_
  refine AList.p rfl (pure_move (.tmp _ _ rfl)) ?_
  first | (refine AList.p rfl (pure_lenL Try.underlying23 (.tmp _ _ rfl)) ?_) | (refine AList.p rfl (pure_lenS Try.underlying23 (.tmp _ _ rfl)) ?_) | (refine AList.p rfl (pure_lenM Try.underlying23 (.tmp _ _ rfl)) ?_)
  refine AList.p rfl (pure_lss (.tmp _ _ rfl) (.tmp _ _ rfl)) ?_
  refine AList.p rfl (pure_move (.tmp _ _ rfl)) ?_
  -- the guard in slot 10
  refine bool_casesL (t := 10) rfl (fun hg10 => ?_) (fun hg10 => ?_)
  · have hh10 := hg10; try simp only [decide_eq_true_eq] at hh10
    refine AList.gp rfl rfl rfl (by first | rfl | assumption) (pure_move (.tmp _ _ rfl)) ?_
    refine AList.gp rfl rfl rfl (by first | rfl | assumption) (pure_lss (.tmp _ _ rfl) ev_int) ?_
    refine AList.p rfl (pure_pickT (.tmp _ _ rfl) (by first | rfl | assumption) (.tmp _ _ rfl)) ?_
    refine AList.nil ?_
    refine Next.go ?_
    -- c0
    refine AWP.cond (.tmp _ _ rfl) (fun hc13 => ?_) (fun hc13 => ?_)
    · try simp only [decide_eq_true_eq] at hc13
      refine AWP.skip ?_
      refine Next.go ?_
      refine AWP.seq ?_
      refine AWP.block ?_
      refine AWP.seq ?_
      -- region 5
      refine AWP.region ?_
      refine AList.p rfl (pure_move (.tmp _ _ rfl)) ?_
      refine AList.p rfl (pure_move (.tmp _ _ rfl)) ?_
      first | (refine AList.p rfl (pure_indexL Try.underlying23 Try.sizeOf3 (.tmp _ _ rfl) (.tmp _ _ rfl) (by omega) (by omega)) ?_) | (refine AList.p rfl (pure_indexM Try.underlying23 Try.sizeOf3 (.tmp _ _ rfl) (.tmp _ _ rfl) (by omega) (by omega)) ?_)
      first | (refine AList.p rfl (pure_load1 Try.isAgg3 (.tmp _ _ rfl)) ?_) | (refine AList.s rfl (step_load1 Try.isAgg3 (.tmp _ _ rfl) (by first | assumption | exact (by assumption : Heap.le _ _).objs _ _ (by assumption) | exact Heap.objs_set_same _ _ _ | exact (Heap.objs_set_ne _ _ (by assumption)).trans (Heap.objs_set_same _ _ _) | exact (Heap.objs_set_ne _ _ (by assumption)).trans ((Heap.objs_set_ne _ _ (by assumption)).trans (Heap.objs_set_same _ _ _)) | exact (Heap.objs_set_ne _ _ (by assumption)).trans (by assumption)) rfl) ?_; rintro _ _ ⟨rfl, hH⟩; obtain rfl := hH.symm)
      refine AList.s rfl (step_call0 Try.call27 (.cons (.tmp _ _ rfl) .nil) (atRaw_calls _ (hi64.at _ (by omega)) _)) ?_
      rintro _ _ ⟨rfl, hH⟩
      obtain rfl := hH.symm
      refine AList.p rfl (pure_assign (.tmp _ _ rfl)) ?_
      refine AList.nil ?_
      refine Next.go ?_
      refine AWP.meet (fun env H2 => env = [(0, .slice 1 (l.map (.int .i64)) tl), (3, .slice 1 (((l.take i).map someF).map (.int .i64)) (.own t)), (4, .int .i64 i), (5, .int .i64 (someF (l[(i : Int).toNat]'(by omega))))] ∧ H1 = H2) ?_ ?_
      · refine AWP.seq ?_
        -- region 6
        refine AWP.region ?_
        refine AList.p rfl (pure_move (.tmp _ _ rfl)) ?_
        refine AList.p rfl (pure_move (.tmp _ _ rfl)) ?_
        first | (refine AList.p rfl (pure_indexL Try.underlying23 Try.sizeOf3 (.tmp _ _ rfl) (.tmp _ _ rfl) (by omega) (by omega)) ?_) | (refine AList.p rfl (pure_indexM Try.underlying23 Try.sizeOf3 (.tmp _ _ rfl) (.tmp _ _ rfl) (by omega) (by omega)) ?_)
        first | (refine AList.p rfl (pure_load1 Try.isAgg3 (.tmp _ _ rfl)) ?_) | (refine AList.s rfl (step_load1 Try.isAgg3 (.tmp _ _ rfl) (by first | assumption | exact (by assumption : Heap.le _ _).objs _ _ (by assumption) | exact Heap.objs_set_same _ _ _ | exact (Heap.objs_set_ne _ _ (by assumption)).trans (Heap.objs_set_same _ _ _) | exact (Heap.objs_set_ne _ _ (by assumption)).trans ((Heap.objs_set_ne _ _ (by assumption)).trans (Heap.objs_set_same _ _ _)) | exact (Heap.objs_set_ne _ _ (by assumption)).trans (by assumption)) rfl) ?_; rintro _ _ ⟨rfl, hH⟩; obtain rfl := hH.symm)
        refine AList.p rfl (pure_rem (.tmp _ _ rfl) ev_int (by omega)) ?_
        refine AList.p rfl (pure_eql (.tmp _ _ rfl) ev_int) ?_
        refine AList.nil ?_
        refine Next.go ?_
        -- c1
        refine AWP.cond (.tmp _ _ rfl) (fun hc26 => ?_) (fun hc26 => ?_)
        · try simp only [decide_eq_true_eq] at hc26
          -- region 7
          refine AWP.region ?_
          refine AList.p rfl (pure_move (.tmp _ _ rfl)) ?_
          refine AList.p rfl (pure_move (.tmp _ _ rfl)) ?_
          first | (refine AList.p rfl (pure_indexL Try.underlying23 Try.sizeOf3 (.tmp _ _ rfl) (.tmp _ _ rfl) (by omega) (by omega)) ?_) | (refine AList.p rfl (pure_indexM Try.underlying23 Try.sizeOf3 (.tmp _ _ rfl) (.tmp _ _ rfl) (by omega) (by omega)) ?_)
          first | (refine AList.p rfl (pure_load1 Try.isAgg3 (.tmp _ _ rfl)) ?_) | (refine AList.s rfl (step_load1 Try.isAgg3 (.tmp _ _ rfl) (by first | assumption | exact (by assumption : Heap.le _ _).objs _ _ (by assumption) | exact Heap.objs_set_same _ _ _ | exact (Heap.objs_set_ne _ _ (by assumption)).trans (Heap.objs_set_same _ _ _) | exact (Heap.objs_set_ne _ _ (by assumption)).trans ((Heap.objs_set_ne _ _ (by assumption)).trans (Heap.objs_set_same _ _ _)) | exact (Heap.objs_set_ne _ _ (by assumption)).trans (by assumption)) rfl) ?_; rintro _ _ ⟨rfl, hH⟩; obtain rfl := hH.symm)
          refine AList.p rfl (pure_assign (.tmp _ _ rfl)) ?_
          refine AList.nil ?_
          refine Next.go ?_
          refine Meets.mk (M := fun env H2 => env = [(0, .slice 1 (l.map (.int .i64)) tl), (3, .slice 1 (((l.take i).map someF).map (.int .i64)) (.own t)), (4, .int .i64 i), (5, .int .i64 (someF (l[(i : Int).toNat]'(by omega))))] ∧ H1 = H2) ⟨by rw [someF, if_pos (by simpa using hc26)], rfl⟩ (sub_c rfl (sub_c rfl (sub_c rfl (sub_c rfl sub_n)))) (Heap.le.refl _)
        · try simp only [decide_eq_false_iff_not] at hc26
          refine AWP.skip ?_
          refine Next.go ?_
          refine Meets.mk (M := fun env H2 => env = [(0, .slice 1 (l.map (.int .i64)) tl), (3, .slice 1 (((l.take i).map someF).map (.int .i64)) (.own t)), (4, .int .i64 i), (5, .int .i64 (someF (l[(i : Int).toNat]'(by omega))))] ∧ H1 = H2) ⟨by rw [someF, if_neg (by simpa using hc26)], rfl⟩ (sub_c rfl (sub_c rfl (sub_c rfl (sub_c rfl sub_n)))) (Heap.le.refl _)
      · rintro _ _ ⟨rfl, rfl⟩
        -- region 8
        refine AWP.region ?_
        refine AList.p rfl (pure_move (.tmp _ _ rfl)) ?_
        refine AList.p rfl (pure_move (.tmp _ _ rfl)) ?_
        refine AList.s rfl (step_bs1 Try.underlying23 Try.sizeOf3 Try.zeroValue3 rfl (.tmp _ _ rfl) (.inl rfl) ⟨rfl, rfl⟩) ?_
        rintro _ _ ⟨rfl, hH⟩
        obtain rfl := hH.symm
        refine AList.s rfl (step_append Try.underlying23 Try.underlying23 Try.sizeOf3 Try.typeInfo3 Try.zeroValue3 rfl (by decide) (.tmp _ _ rfl) (.tmp _ _ rfl) (by exact .own _ (by first | assumption | exact Heap.toks_live_same _ _)) (by show (_ + _) * 8 ≤ _; simp; omega) (by repeat' (first | exact row_int _ | exact row_n | exact row_c ⟨rfl, rfl⟩ row_n | exact row_drop (row_int _) | exact row_take (row_int _) | refine row_app ?_ ?_)) (by repeat' (first | exact row_int _ | exact row_n | exact row_c ⟨rfl, rfl⟩ row_n | exact row_drop (row_int _) | exact row_take (row_int _) | refine row_app ?_ ?_))) ?_
        rintro _ _ ⟨t34, ht34, rfl, hH⟩
        obtain rfl := hH.symm
        have hf34 := Heap.fresh_of hle ht34
        have hle34 := Heap.le_in (Heap.le_out (t := t) hle (by assumption)) t34
        refine AList.p rfl (pure_assign (.tmp _ _ rfl)) ?_
        refine AList.nil ?_
        refine Block.go ?_
        refine Next.go ?_
        -- region 4
        refine AWP.region ?_
        refine AList.p rfl (pure_move (.tmp _ _ rfl)) ?_
        refine AList.p rfl (pure_add (.tmp _ _ rfl) ev_int (by omega)) ?_
        refine AList.p rfl (pure_assign (.tmp _ _ rfl)) ?_
        refine AList.nil ?_
        refine Next.go ?_
        refine Round.mk (J := some_J l tl H) ⟨i + 1, t34, by omega, by omega, rfl, hle34, Heap.toks_live_same _ _, hf34, rfl⟩ (sub_c rfl (sub_e rfl (slice_eq (by rw [take_succ_get l i (by omega)]; simp only [List.map_append, List.map_cons, List.map_nil, Int.toNat_natCast])) (sub_c rfl sub_n))) (Heap.le.refl _) (by omega)
    · try simp only [decide_eq_false_iff_not, Int.not_lt] at hc13
      refine AWP.exit ?_
      refine Next.ex ?_
      refine Next.ex ?_
      refine Block.hit ?_
      refine Next.go ?_
      refine AWP.seq ?_
      -- region 9
      refine AWP.region ?_
      refine AList.p rfl (pure_move (.tmp _ _ rfl)) ?_
      refine AList.p rfl (pure_assign (.tmp _ _ rfl)) ?_
      refine AList.nil ?_
      refine Next.go ?_
      refine AWP.ret ?_
      -- ret 0
      refine Ret.go (.cons (.weak _ _ _ rfl (.slice _ _ _)) .nil) _ (hle) ?_
      refine ⟨slice_eq ?_, rfl⟩
      have e : l.take i = l.take 40 := by
        rcases Nat.lt_or_ge i 40 with h | h
        · rw [List.take_of_length_le (by omega), List.take_of_length_le (by omega)]
        · rw [show i = 40 by omega]
      rw [e, someL]
  · have hh10 := hg10; try simp only [decide_eq_false_iff_not, Int.not_lt] at hh10
    refine AList.gn rfl rfl rfl (by first | rfl | assumption) ?_
    refine AList.gn rfl rfl rfl (by first | rfl | assumption) ?_
    refine AList.p rfl (pure_pickF (.tmp _ _ rfl) (by first | rfl | assumption) ev_bool) ?_
    refine AList.nil ?_
    refine Next.go ?_
    -- c0
    refine AWP.cond_false (.tmp _ _ rfl) (by first | rfl | assumption) ?_
    refine AWP.exit ?_
    refine Next.ex ?_
    refine Next.ex ?_
    refine Block.hit ?_
    refine Next.go ?_
    refine AWP.seq ?_
    -- region 9
    refine AWP.region ?_
    refine AList.p rfl (pure_move (.tmp _ _ rfl)) ?_
    refine AList.p rfl (pure_assign (.tmp _ _ rfl)) ?_
    refine AList.nil ?_
    refine Next.go ?_
    refine AWP.ret ?_
    -- ret 1
    refine Ret.go (.cons (.weak _ _ _ rfl (.slice _ _ _)) .nil) _ (hle) ?_
    refine ⟨slice_eq ?_, rfl⟩
    have e : l.take i = l.take 40 := by
      rcases Nat.lt_or_ge i 40 with h | h
      · rw [List.take_of_length_le (by omega), List.take_of_length_le (by omega)]
      · rw [show i = 40 by omega]
    rw [e, someL]

def below (x : Int) (l : List Int) : Nat := (l.takeWhile fun y => decide (y < x)).length
def ins (out : List Int) (x : Int) : List Int := if isCell x = true ∧ out[below x out]? ≠ some x then out.take (below x out) ++ [x] ++ out.drop (below x out) else out
def rising (l : List Int) : List Int := l.foldl ins []
theorem below_le (x : Int) (l : List Int) : below x l ≤ l.length := by unfold below; exact List.Sublist.length_le (List.takeWhile_sublist _)
theorem below_next {x : Int} : ∀ {l : List Int} {k : Nat} (_ : k ≤ below x l) (h : k < l.length), l[k] < x → k + 1 ≤ below x l
  | [], k, _, h, _ => by simp at h
  | y :: l, 0, _, _, hx => by
    simp only [List.getElem_cons_zero] at hx
    simp [below, hx]
  | y :: l, k + 1, hk, h, hx => by
    unfold below at hk ⊢
    rw [List.takeWhile_cons] at hk ⊢
    split
    · rename_i hy
      rw [if_pos hy] at hk
      simp only [List.length_cons, List.getElem_cons_succ] at hk h hx ⊢
      have := below_next (x := x) (l := l) (k := k) (by unfold below; omega) (by omega) hx
      unfold below at this
      omega
    · rename_i hy
      rw [if_neg hy] at hk
      simp at hk
theorem below_stop {x : Int} : ∀ {l : List Int} {k : Nat} (_ : k ≤ below x l), (∀ h : k < l.length, ¬ l[k] < x) → k = below x l
  | [], k, hk, _ => by simp [below] at hk ⊢; exact hk
  | y :: l, 0, _, hx => by
    have := hx (by simp)
    simp only [List.getElem_cons_zero] at this
    simp [below, this]
  | y :: l, k + 1, hk, hx => by
    unfold below at hk ⊢
    rw [List.takeWhile_cons] at hk ⊢
    split
    · rename_i hy
      rw [if_pos hy] at hk
      simp only [List.length_cons] at hk ⊢
      have := below_stop (x := x) (l := l) (k := k) (by unfold below; omega) (fun h => by have := hx (by simp; omega); simpa using this)
      unfold below at this
      omega
    · rename_i hy
      rw [if_neg hy] at hk
      simp at hk
theorem ins_len (out : List Int) (x : Int) : (ins out x).length ≤ out.length + 1 := by
  unfold ins; split
  · simp; omega
  · omega
theorem rising_len : ∀ (l out : List Int), (l.foldl ins out).length ≤ out.length + l.length
  | [], out => by simp
  | x :: l, out => by
    have h1 := rising_len l (ins out x)
    have h2 := ins_len out x
    simp only [List.foldl_cons, List.length_cons]; omega
theorem ins_yes {out : List Int} {x : Int} {j : Nat} (h : isCell x = true) (hk : j = below x out) (hn : out[j]? ≠ some x) : ins out x = out.take j ++ [x] ++ out.drop j := by
  rw [ins, ← hk, if_pos ⟨h, hn⟩]
theorem ins_no1 {out : List Int} {x : Int} (h : isCell x = false) : ins out x = out := by
  rw [ins, if_neg (by rw [h]; simp)]
theorem ins_no2 {out : List Int} {x : Int} {j : Nat} (hk : j = below x out) (hn : out[j]? = some x) : ins out x = out := by
  rw [ins, ← hk, if_neg (by rw [hn]; simp)]
def ris_J (l : List Int) (tl : Tail) (H : Heap) : Nat → Env → Heap → Prop := fun k env H1 => ∃ (i : Nat) (out : List Int) (to : Tail), i ≤ l.length ∧ out = (l.take i).foldl ins [] ∧ env = [(0, .slice 1 (l.map (.int .i64)) tl), (3, .slice 1 (out.map (.int .i64)) to), (4, .int .i64 i)] ∧ H.le H1 ∧ k = l.length - i
def ris_K (l : List Int) (tl : Tail) (i : Nat) (x : Int) (out : List Int) (to : Tail) (H : Heap) : Nat → Env → Heap → Prop := fun k env H1 => ∃ (j : Nat), j ≤ out.length ∧ j ≤ below x out ∧ env = [(0, .slice 1 (l.map (.int .i64)) tl), (3, .slice 1 (out.map (.int .i64)) to), (4, .int .i64 i), (5, .bool (isCell x)), (6, .int .i64 j)] ∧ H = H1 ∧ k = out.length - j

set_option maxRecDepth 100000 in
theorem Rising_calls (l : List Int) (tl : Tail) (hl : l.length ≤ 100000) (H : Heap) : ACall Try.prog 20 [.slice 1 (l.map (.int .i64)) tl] H (fun x H' => x = .slice 1 ((rising l).map (.int .i64)) .shared ∧ H = H') := by
  have hle0 := Heap.le.refl H
  refine ACall.of_body Try.func20 rfl Try.ntmps20 Try.results20 rfl ?_
  refine AWP.seq ?_
  -- region 0
  refine AWP.region ?_
  refine AList.p rfl (pure_assign (ev_nil (sz := 1) (tl := .full))) ?_
  refine AList.nil ?_
  refine Next.go ?_
  refine AWP.seq ?_
  -- region 1
  refine AWP.region ?_
  refine AList.p rfl (pure_assign (ev_nil (sz := 1) (tl := .full))) ?_
  refine AList.nil ?_
  refine Next.go ?_
  refine AWP.seq ?_
  refine AWP.seq ?_
  -- region 2
  refine AWP.region ?_
  refine AList.p rfl (pure_assign ev_int) ?_
  refine AList.nil ?_
  refine Next.go ?_
  refine AWP.block ?_
  -- L0
  refine AWP.loopW (ris_J l tl H) (l.length) ⟨0, [], .full, Nat.zero_le _, rfl, rfl, hle0, rfl⟩ (sub_c rfl (sub_c rfl (sub_c rfl sub_n))) (Heap.le.refl _) ?_
  rintro _ _ H1 ⟨i, out, to, hi, ho, rfl, hle, rfl⟩
  have hol := rising_len (l.take i) []
  rw [← ho] at hol
  simp only [List.length_nil, List.length_take] at hol
  refine AWP.seq ?_
  refine AWP.seq ?_
  -- region 3
  refine AWP.region ?_
  refine AList.p rfl (pure_move (.tmp _ _ rfl)) ?_
  refine AList.p rfl (pure_move (.tmp _ _ rfl)) ?_
  first | (refine AList.p rfl (pure_lenL Try.underlying23 (.tmp _ _ rfl)) ?_) | (refine AList.p rfl (pure_lenS Try.underlying23 (.tmp _ _ rfl)) ?_) | (refine AList.p rfl (pure_lenM Try.underlying23 (.tmp _ _ rfl)) ?_)
  refine AList.p rfl (pure_lss (.tmp _ _ rfl) (.tmp _ _ rfl)) ?_
  refine AList.nil ?_
  refine Next.go ?_
  -- c0
  refine AWP.cond (.tmp _ _ rfl) (fun hc10 => ?_) (fun hc10 => ?_)
  · try simp only [decide_eq_true_eq] at hc10
    refine AWP.skip ?_
    refine Next.go ?_
    refine AWP.meet (fun env H2 => ∃ to2, env = [(0, .slice 1 (l.map (.int .i64)) tl), (3, .slice 1 ((ins out (l[i]'(by omega))).map (.int .i64)) to2), (4, .int .i64 i)] ∧ H.le H2) ?_ ?_
    · refine AWP.block ?_
      refine AWP.seq ?_
      -- region 5
      refine AWP.region ?_
      refine AList.p rfl (pure_move (.tmp _ _ rfl)) ?_
      refine AList.p rfl (pure_move (.tmp _ _ rfl)) ?_
      first | (refine AList.p rfl (pure_indexL Try.underlying23 Try.sizeOf3 (.tmp _ _ rfl) (.tmp _ _ rfl) (by omega) (by omega)) ?_) | (refine AList.p rfl (pure_indexM Try.underlying23 Try.sizeOf3 (.tmp _ _ rfl) (.tmp _ _ rfl) (by omega) (by omega)) ?_)
      first | (refine AList.p rfl (pure_load1 Try.isAgg3 (.tmp _ _ rfl)) ?_) | (refine AList.s rfl (step_load1 Try.isAgg3 (.tmp _ _ rfl) (by first | assumption | exact (by assumption : Heap.le _ _).objs _ _ (by assumption) | exact Heap.objs_set_same _ _ _ | exact (Heap.objs_set_ne _ _ (by assumption)).trans (Heap.objs_set_same _ _ _) | exact (Heap.objs_set_ne _ _ (by assumption)).trans ((Heap.objs_set_ne _ _ (by assumption)).trans (Heap.objs_set_same _ _ _)) | exact (Heap.objs_set_ne _ _ (by assumption)).trans (by assumption)) rfl) ?_; rintro _ _ ⟨rfl, hH⟩; obtain rfl := hH.symm)
      refine AList.s rfl (step_call0 Try.call44 (.cons (.tmp _ _ rfl) .nil) (cell_calls _ _)) ?_
      rintro _ _ ⟨rfl, hH⟩
      obtain rfl := hH.symm
      refine AList.p rfl (pure_assign (.tmp _ _ rfl)) ?_
      refine AList.nil ?_
      refine Next.go ?_
      refine AWP.seq ?_
      -- region 6
      refine AWP.region ?_
      refine AList.p rfl (pure_assign ev_int) ?_
      refine AList.nil ?_
      refine Next.go ?_
      refine AWP.meet (fun env H2 => ∃ j : Nat, j = below (l[(i : Int).toNat]'(by omega)) out ∧ j ≤ out.length ∧ env = [(0, .slice 1 (l.map (.int .i64)) tl), (3, .slice 1 (out.map (.int .i64)) to), (4, .int .i64 i), (5, .bool (isCell (l[(i : Int).toNat]'(by omega)))), (6, .int .i64 j)] ∧ H1 = H2) ?_ ?_
      · refine AWP.block ?_
        -- L1
        refine AWP.loopW (ris_K l tl i (l[(i : Int).toNat]'(by omega)) out to H1) (out.length) ⟨0, Nat.zero_le _, Nat.zero_le _, rfl, rfl, rfl⟩ (sub_c rfl (sub_c rfl (sub_c rfl (sub_c rfl (sub_c rfl sub_n))))) (Heap.le.refl _) ?_
        rintro _ _ _ ⟨j, hj, hjb, rfl, rfl, rfl⟩
        refine AWP.seq ?_
        refine AWP.seq ?_
        -- region 7
        refine AWP.draw [(0, true), (1, true), (2, true), (3, true), (4, true), (5, true), (6, true), (7, true), (8, true), (9, true), (10, true), (11, true), (12, true), (13, true), (14, true)] rfl (by decide +kernel) ?_
        refine APlan.p rfl rfl (pure_move (.tmp _ _ rfl)) ?_
        refine APlan.p rfl rfl (pure_move (.tmp _ _ rfl)) ?_
        first | (refine APlan.p rfl rfl (pure_lenL Try.underlying23 (.tmp _ _ rfl)) ?_) | (refine APlan.p rfl rfl (pure_lenS Try.underlying23 (.tmp _ _ rfl)) ?_) | (refine APlan.p rfl rfl (pure_lenM Try.underlying23 (.tmp _ _ rfl)) ?_)
        refine APlan.p rfl rfl (pure_lss (.tmp _ _ rfl) (.tmp _ _ rfl)) ?_
        refine APlan.p rfl rfl (pure_move (.tmp _ _ rfl)) ?_
        -- the guard in slot 22
        refine bool_casesP (t := 22) rfl (fun hg22 => ?_) (fun hg22 => ?_)
        · have hh22 := hg22; try simp only [decide_eq_true_eq] at hh22
          refine APlan.gp rfl rfl rfl rfl (by first | rfl | assumption) (pure_move (.tmp _ _ rfl)) ?_
          refine APlan.gp rfl rfl rfl rfl (by first | rfl | assumption) (pure_move (.tmp _ _ rfl)) ?_
          first | (refine APlan.gp rfl rfl rfl rfl (by first | rfl | assumption) (pure_indexL Try.underlying23 Try.sizeOf3 (.tmp _ _ rfl) (.tmp _ _ rfl) (by omega) (by omega)) ?_) | (refine APlan.gp rfl rfl rfl rfl (by first | rfl | assumption) (pure_indexM Try.underlying23 Try.sizeOf3 (.tmp _ _ rfl) (.tmp _ _ rfl) (by omega) (by omega)) ?_)
          first | (refine APlan.gp rfl rfl rfl rfl (by first | rfl | assumption) (pure_load1 Try.isAgg3 (.tmp _ _ rfl)) ?_) | (refine APlan.gf rfl rfl rfl rfl (by first | rfl | assumption) (fun _ => step_load1 Try.isAgg3 (.tmp _ _ rfl) (by first | assumption | exact (by assumption : Heap.le _ _).objs _ _ (by assumption) | exact Heap.objs_set_same _ _ _ | exact (Heap.objs_set_ne _ _ (by assumption)).trans (Heap.objs_set_same _ _ _) | exact (Heap.objs_set_ne _ _ (by assumption)).trans ((Heap.objs_set_ne _ _ (by assumption)).trans (Heap.objs_set_same _ _ _)) | exact (Heap.objs_set_ne _ _ (by assumption)).trans (by assumption)) rfl) ?_)
          refine APlan.gp rfl rfl rfl rfl (by first | rfl | assumption) (pure_move (.tmp _ _ rfl)) ?_
          refine APlan.gp rfl rfl rfl rfl (by first | rfl | assumption) (pure_move (.tmp _ _ rfl)) ?_
          first | (refine APlan.gp rfl rfl rfl rfl (by first | rfl | assumption) (pure_indexL Try.underlying23 Try.sizeOf3 (.tmp _ _ rfl) (.tmp _ _ rfl) (by omega) (by omega)) ?_) | (refine APlan.gp rfl rfl rfl rfl (by first | rfl | assumption) (pure_indexM Try.underlying23 Try.sizeOf3 (.tmp _ _ rfl) (.tmp _ _ rfl) (by omega) (by omega)) ?_)
          first | (refine APlan.gp rfl rfl rfl rfl (by first | rfl | assumption) (pure_load1 Try.isAgg3 (.tmp _ _ rfl)) ?_) | (refine APlan.gf rfl rfl rfl rfl (by first | rfl | assumption) (fun _ => step_load1 Try.isAgg3 (.tmp _ _ rfl) (by first | assumption | exact (by assumption : Heap.le _ _).objs _ _ (by assumption) | exact Heap.objs_set_same _ _ _ | exact (Heap.objs_set_ne _ _ (by assumption)).trans (Heap.objs_set_same _ _ _) | exact (Heap.objs_set_ne _ _ (by assumption)).trans ((Heap.objs_set_ne _ _ (by assumption)).trans (Heap.objs_set_same _ _ _)) | exact (Heap.objs_set_ne _ _ (by assumption)).trans (by assumption)) rfl) ?_)
          refine APlan.gp rfl rfl rfl rfl (by first | rfl | assumption) (pure_lss (.tmp _ _ rfl) (.tmp _ _ rfl)) ?_
          refine APlan.p rfl rfl (pure_pickT (.tmp _ _ rfl) (by first | rfl | assumption) (.tmp _ _ rfl)) ?_
          refine APlan.nil ?_
          refine Next.go ?_
          -- c1
          refine AWP.cond (.tmp _ _ rfl) (fun hc32 => ?_) (fun hc32 => ?_)
          · try simp only [decide_eq_true_eq] at hc32
            refine AWP.skip ?_
            refine Next.go ?_
            refine AWP.block ?_
            -- region 8
            refine AWP.region ?_
            refine AList.p rfl (pure_move (.tmp _ _ rfl)) ?_
            refine AList.p rfl (pure_add (.tmp _ _ rfl) ev_int (by omega)) ?_
            refine AList.p rfl (pure_assign (.tmp _ _ rfl)) ?_
            refine AList.nil ?_
            refine Block.go ?_
            refine Next.go ?_
            refine Round.mk (J := ris_K l tl i (l[(i : Int).toNat]'(by omega)) out to H1) ⟨j + 1, by omega, below_next hjb (by omega) (by simpa using hc32), rfl, rfl, rfl⟩ (sub_c rfl (sub_c rfl (sub_c rfl (sub_c rfl (sub_c rfl sub_n))))) (Heap.le.refl _) (by omega)
          · try simp only [decide_eq_false_iff_not, Int.not_lt] at hc32
            refine AWP.exit ?_
            refine Next.ex ?_
            refine Next.ex ?_
            refine Block.hit ?_
            refine Next.go ?_
            refine Meets.mk (M := fun env H2 => ∃ j : Nat, j = below (l[(i : Int).toNat]'(by omega)) out ∧ j ≤ out.length ∧ env = [(0, .slice 1 (l.map (.int .i64)) tl), (3, .slice 1 (out.map (.int .i64)) to), (4, .int .i64 i), (5, .bool (isCell (l[(i : Int).toNat]'(by omega)))), (6, .int .i64 j)] ∧ H1 = H2) ⟨j, below_stop hjb (fun h => by have := hc32; simp at this; simpa using this), hj, rfl, rfl⟩ (sub_c rfl (sub_c rfl (sub_c rfl (sub_c rfl (sub_c rfl sub_n))))) (Heap.le.refl _)
        · have hh22 := hg22; try simp only [decide_eq_false_iff_not, Int.not_lt] at hh22
          refine APlan.gn rfl rfl rfl rfl (by first | rfl | assumption) ?_
          refine APlan.gn rfl rfl rfl rfl (by first | rfl | assumption) ?_
          refine APlan.gn rfl rfl rfl rfl (by first | rfl | assumption) ?_
          refine APlan.gn rfl rfl rfl rfl (by first | rfl | assumption) ?_
          refine APlan.gn rfl rfl rfl rfl (by first | rfl | assumption) ?_
          refine APlan.gn rfl rfl rfl rfl (by first | rfl | assumption) ?_
          refine APlan.gn rfl rfl rfl rfl (by first | rfl | assumption) ?_
          refine APlan.gn rfl rfl rfl rfl (by first | rfl | assumption) ?_
          refine APlan.gn rfl rfl rfl rfl (by first | rfl | assumption) ?_
          refine APlan.p rfl rfl (pure_pickF (.tmp _ _ rfl) (by first | rfl | assumption) ev_bool) ?_
          refine APlan.nil ?_
          refine Next.go ?_
          -- c1
          refine AWP.cond_false (.tmp _ _ rfl) (by first | rfl | assumption) ?_
          refine AWP.exit ?_
          refine Next.ex ?_
          refine Next.ex ?_
          refine Block.hit ?_
          refine Next.go ?_
          refine Meets.mk (M := fun env H2 => ∃ j : Nat, j = below (l[(i : Int).toNat]'(by omega)) out ∧ j ≤ out.length ∧ env = [(0, .slice 1 (l.map (.int .i64)) tl), (3, .slice 1 (out.map (.int .i64)) to), (4, .int .i64 i), (5, .bool (isCell (l[(i : Int).toNat]'(by omega)))), (6, .int .i64 j)] ∧ H1 = H2) ⟨j, below_stop hjb (fun h => by omega), hj, rfl, rfl⟩ (sub_c rfl (sub_c rfl (sub_c rfl (sub_c rfl (sub_c rfl sub_n))))) (Heap.le.refl _)
      · rintro _ _ ⟨j, hk, hj, rfl, rfl⟩
        refine AWP.seq ?_
        -- region 9
        refine AWP.draw [(0, true), (1, true), (2, true), (3, true), (4, true), (5, true), (6, true), (7, true), (8, true), (9, true), (10, true), (11, true), (12, true), (13, true), (14, true), (15, true), (16, true), (17, true)] rfl (by decide +kernel) ?_
        refine APlan.p rfl rfl (pure_move (.tmp _ _ rfl)) ?_
        refine APlan.p rfl rfl (pure_move (.tmp _ _ rfl)) ?_
        -- the guard in slot 36
        refine bool_casesP (t := 36) rfl (fun hg36 => ?_) (fun hg36 => ?_)
        · have hh36 := hg36; try simp only [decide_eq_true_eq, decide_eq_false_iff_not, Bool.not_eq_true', Bool.not_eq_false', Int.not_lt, Int.not_le, ne_eq, Decidable.not_not] at hh36
          refine APlan.gp rfl rfl rfl rfl (by first | rfl | assumption) (pure_move (.tmp _ _ rfl)) ?_
          refine APlan.gp rfl rfl rfl rfl (by first | rfl | assumption) (pure_move (.tmp _ _ rfl)) ?_
          first | (refine APlan.gp rfl rfl rfl rfl (by first | rfl | assumption) (pure_lenL Try.underlying23 (.tmp _ _ rfl)) ?_) | (refine APlan.gp rfl rfl rfl rfl (by first | rfl | assumption) (pure_lenS Try.underlying23 (.tmp _ _ rfl)) ?_) | (refine APlan.gp rfl rfl rfl rfl (by first | rfl | assumption) (pure_lenM Try.underlying23 (.tmp _ _ rfl)) ?_)
          refine APlan.gp rfl rfl rfl rfl (by first | rfl | assumption) (pure_eql (.tmp _ _ rfl) (.tmp _ _ rfl)) ?_
          refine APlan.gp rfl rfl rfl rfl (by first | rfl | assumption) (pure_move (.tmp _ _ rfl)) ?_
          -- the guard in slot 41
          refine bool_casesP (t := 41) rfl (fun hg41 => ?_) (fun hg41 => ?_)
          · have hh41 := hg41; try simp only [decide_eq_true_eq] at hh41
            refine APlan.gn rfl rfl rfl rfl (by first | rfl | assumption) ?_
            refine APlan.gn rfl rfl rfl rfl (by first | rfl | assumption) ?_
            refine APlan.gn rfl rfl rfl rfl (by first | rfl | assumption) ?_
            refine APlan.gn rfl rfl rfl rfl (by first | rfl | assumption) ?_
            refine APlan.gn rfl rfl rfl rfl (by first | rfl | assumption) ?_
            refine APlan.gn rfl rfl rfl rfl (by first | rfl | assumption) ?_
            refine APlan.gn rfl rfl rfl rfl (by first | rfl | assumption) ?_
            refine APlan.gn rfl rfl rfl rfl (by first | rfl | assumption) ?_
            refine APlan.gn rfl rfl rfl rfl (by first | rfl | assumption) ?_
            refine APlan.gp rfl rfl rfl rfl (by first | rfl | assumption) (pure_pickT (.tmp _ _ rfl) (by first | rfl | assumption) ev_bool) ?_
            refine APlan.p rfl rfl (pure_pickT (.tmp _ _ rfl) (by first | rfl | assumption) (.tmp _ _ rfl)) ?_
            refine APlan.nil ?_
            refine Next.go ?_
            -- c2
            refine AWP.cond_true (.tmp _ _ rfl) (by first | rfl | assumption) ?_
            -- region 10
            refine AWP.draw [(0, true), (1, true), (2, true), (3, true), (5, true), (6, true), (7, true), (8, true), (9, true), (11, true), (12, true), (13, true), (4, false), (10, false), (14, false), (15, true)] rfl (by decide +kernel) ?_
            refine APlan.f rfl rfl (fun _ => step_bs0 Try.underlying23 Try.sizeOf3 Try.zeroValue3 ) ?_
            refine APlan.p rfl rfl (pure_move (.tmp _ _ rfl)) ?_
            refine APlan.p rfl rfl (pure_move (.tmp _ _ rfl)) ?_
            refine APlan.p rfl rfl (pure_sliceHiL Try.underlying23 Try.sizeOf3 (.tmp _ _ rfl) (.tmp _ _ rfl) (by omega) (by omega)) ?_
            refine APlan.p rfl rfl (pure_move (.tmp _ _ rfl)) ?_
            refine APlan.p rfl rfl (pure_move (.tmp _ _ rfl)) ?_
            first | (refine APlan.p rfl rfl (pure_indexL Try.underlying23 Try.sizeOf3 (.tmp _ _ rfl) (.tmp _ _ rfl) (by omega) (by omega)) ?_) | (refine APlan.p rfl rfl (pure_indexM Try.underlying23 Try.sizeOf3 (.tmp _ _ rfl) (.tmp _ _ rfl) (by omega) (by omega)) ?_)
            first | (refine APlan.p rfl rfl (pure_load1 Try.isAgg3 (.tmp _ _ rfl)) ?_) | (refine APlan.f rfl rfl (fun _ => step_load1 Try.isAgg3 (.tmp _ _ rfl) (by first | assumption | exact (by assumption : Heap.le _ _).objs _ _ (by assumption) | exact Heap.objs_set_same _ _ _ | exact (Heap.objs_set_ne _ _ (by assumption)).trans (Heap.objs_set_same _ _ _) | exact (Heap.objs_set_ne _ _ (by assumption)).trans ((Heap.objs_set_ne _ _ (by assumption)).trans (Heap.objs_set_same _ _ _)) | exact (Heap.objs_set_ne _ _ (by assumption)).trans (by assumption)) rfl) ?_)
            refine APlan.f rfl rfl (fun _ => step_bs1 Try.underlying23 Try.sizeOf3 Try.zeroValue3 rfl (.tmp _ _ rfl) (.inl rfl) ⟨rfl, rfl⟩) ?_
            refine APlan.p rfl rfl (pure_move (.tmp _ _ rfl)) ?_
            refine APlan.p rfl rfl (pure_move (.tmp _ _ rfl)) ?_
            refine APlan.p rfl rfl (pure_sliceLoL Try.underlying23 Try.sizeOf3 (.tmp _ _ rfl) (.tmp _ _ rfl) (by omega) (by omega)) ?_
            refine APlan.s rfl rfl (step_append Try.underlying23 Try.underlying23 Try.sizeOf3 Try.typeInfo3 Try.zeroValue3 rfl (by decide) (.tmp _ _ rfl) (.tmp _ _ rfl) (by exact .full) (by show (_ + _) * 8 ≤ _; simp; omega) (by repeat' (first | exact row_int _ | exact row_n | exact row_c ⟨rfl, rfl⟩ row_n | exact row_drop (row_int _) | exact row_take (row_int _) | refine row_app ?_ ?_)) (by repeat' (first | exact row_int _ | exact row_n | exact row_c ⟨rfl, rfl⟩ row_n | exact row_drop (row_int _) | exact row_take (row_int _) | refine row_app ?_ ?_))) ?_
            rintro _ _ ⟨t57, ht57, rfl, hH⟩
            obtain rfl := hH.symm
            have hf57 := Heap.fresh_of hle ht57
            have hle57 := Heap.le_in hle t57
            refine APlan.s rfl rfl (step_append Try.underlying23 Try.underlying23 Try.sizeOf3 Try.typeInfo3 Try.zeroValue3 rfl (by decide) (.tmp _ _ rfl) (.tmp _ _ rfl) (by exact .own _ (by first | assumption | exact Heap.toks_live_same _ _)) (by show (_ + _) * 8 ≤ _; simp; omega) (by repeat' (first | exact row_int _ | exact row_n | exact row_c ⟨rfl, rfl⟩ row_n | exact row_drop (row_int _) | exact row_take (row_int _) | refine row_app ?_ ?_)) (by repeat' (first | exact row_int _ | exact row_n | exact row_c ⟨rfl, rfl⟩ row_n | exact row_drop (row_int _) | exact row_take (row_int _) | refine row_app ?_ ?_))) ?_
            rintro _ _ ⟨t63, ht63, rfl, hH⟩
            obtain rfl := hH.symm
            have hf63 := Heap.fresh_of hle57 ht63
            have hle63 := Heap.le_in (Heap.le_out (t := t57) hle57 (by assumption)) t63
            refine APlan.s rfl rfl (step_append Try.underlying23 Try.underlying23 Try.sizeOf3 Try.typeInfo3 Try.zeroValue3 rfl (by decide) (.tmp _ _ rfl) (.tmp _ _ rfl) (by exact .own _ (by first | assumption | exact Heap.toks_live_same _ _)) (by show (_ + _) * 8 ≤ _; simp; omega) (by repeat' (first | exact row_int _ | exact row_n | exact row_c ⟨rfl, rfl⟩ row_n | exact row_drop (row_int _) | exact row_take (row_int _) | refine row_app ?_ ?_)) (by repeat' (first | exact row_int _ | exact row_n | exact row_c ⟨rfl, rfl⟩ row_n | exact row_drop (row_int _) | exact row_take (row_int _) | refine row_app ?_ ?_))) ?_
            rintro _ _ ⟨t67, ht67, rfl, hH⟩
            obtain rfl := hH.symm
            have hf67 := Heap.fresh_of hle63 ht67
            have hle67 := Heap.le_in (Heap.le_out (t := t63) hle63 (by assumption)) t67
            refine APlan.p rfl rfl (pure_assign (.tmp _ _ rfl)) ?_
            refine APlan.nil ?_
            refine Block.go ?_
            refine Next.go ?_
            refine Meets.mk (M := fun env H2 => ∃ to2, env = [(0, .slice 1 (l.map (.int .i64)) tl), (3, .slice 1 ((ins out (l[i]'(by omega))).map (.int .i64)) to2), (4, .int .i64 i)] ∧ H.le H2) ⟨_, rfl, hle67⟩ (sub_c rfl (sub_e rfl (slice_eq (by rw [ins_yes (j := j) (by simpa using hg36) (by simpa using hk) (by rw [List.getElem?_eq_none (by omega)]; simp)]; simp)) (sub_c rfl sub_n))) (Heap.le.refl _)
          · have hh41 := hg41; try simp only [decide_eq_false_iff_not] at hh41
            refine APlan.gp rfl rfl rfl rfl (by first | rfl | assumption) (pure_move (.tmp _ _ rfl)) ?_
            refine APlan.gp rfl rfl rfl rfl (by first | rfl | assumption) (pure_move (.tmp _ _ rfl)) ?_
            first | (refine APlan.gp rfl rfl rfl rfl (by first | rfl | assumption) (pure_indexL Try.underlying23 Try.sizeOf3 (.tmp _ _ rfl) (.tmp _ _ rfl) (by omega) (by omega)) ?_) | (refine APlan.gp rfl rfl rfl rfl (by first | rfl | assumption) (pure_indexM Try.underlying23 Try.sizeOf3 (.tmp _ _ rfl) (.tmp _ _ rfl) (by omega) (by omega)) ?_)
            first | (refine APlan.gp rfl rfl rfl rfl (by first | rfl | assumption) (pure_load1 Try.isAgg3 (.tmp _ _ rfl)) ?_) | (refine APlan.gf rfl rfl rfl rfl (by first | rfl | assumption) (fun _ => step_load1 Try.isAgg3 (.tmp _ _ rfl) (by first | assumption | exact (by assumption : Heap.le _ _).objs _ _ (by assumption) | exact Heap.objs_set_same _ _ _ | exact (Heap.objs_set_ne _ _ (by assumption)).trans (Heap.objs_set_same _ _ _) | exact (Heap.objs_set_ne _ _ (by assumption)).trans ((Heap.objs_set_ne _ _ (by assumption)).trans (Heap.objs_set_same _ _ _)) | exact (Heap.objs_set_ne _ _ (by assumption)).trans (by assumption)) rfl) ?_)
            refine APlan.gp rfl rfl rfl rfl (by first | rfl | assumption) (pure_move (.tmp _ _ rfl)) ?_
            refine APlan.gp rfl rfl rfl rfl (by first | rfl | assumption) (pure_move (.tmp _ _ rfl)) ?_
            first | (refine APlan.gp rfl rfl rfl rfl (by first | rfl | assumption) (pure_indexL Try.underlying23 Try.sizeOf3 (.tmp _ _ rfl) (.tmp _ _ rfl) (by omega) (by omega)) ?_) | (refine APlan.gp rfl rfl rfl rfl (by first | rfl | assumption) (pure_indexM Try.underlying23 Try.sizeOf3 (.tmp _ _ rfl) (.tmp _ _ rfl) (by omega) (by omega)) ?_)
            first | (refine APlan.gp rfl rfl rfl rfl (by first | rfl | assumption) (pure_load1 Try.isAgg3 (.tmp _ _ rfl)) ?_) | (refine APlan.gf rfl rfl rfl rfl (by first | rfl | assumption) (fun _ => step_load1 Try.isAgg3 (.tmp _ _ rfl) (by first | assumption | exact (by assumption : Heap.le _ _).objs _ _ (by assumption) | exact Heap.objs_set_same _ _ _ | exact (Heap.objs_set_ne _ _ (by assumption)).trans (Heap.objs_set_same _ _ _) | exact (Heap.objs_set_ne _ _ (by assumption)).trans ((Heap.objs_set_ne _ _ (by assumption)).trans (Heap.objs_set_same _ _ _)) | exact (Heap.objs_set_ne _ _ (by assumption)).trans (by assumption)) rfl) ?_)
            refine APlan.gp rfl rfl rfl rfl (by first | rfl | assumption) (pure_neq (.tmp _ _ rfl) (.tmp _ _ rfl)) ?_
            refine APlan.gp rfl rfl rfl rfl (by first | rfl | assumption) (pure_pickF (.tmp _ _ rfl) (by first | rfl | assumption) (.tmp _ _ rfl)) ?_
            refine APlan.p rfl rfl (pure_pickT (.tmp _ _ rfl) (by first | rfl | assumption) (.tmp _ _ rfl)) ?_
            refine APlan.nil ?_
            refine Next.go ?_
            -- c2
            refine AWP.cond (.tmp _ _ rfl) (fun hc52 => ?_) (fun hc52 => ?_)
            · try simp only [decide_eq_true_eq, ne_eq] at hc52
              -- region 10
              refine AWP.draw [(0, true), (1, true), (2, true), (3, true), (5, true), (6, true), (7, true), (8, true), (9, true), (11, true), (12, true), (13, true), (4, false), (10, false), (14, false), (15, true)] rfl (by decide +kernel) ?_
              refine APlan.f rfl rfl (fun _ => step_bs0 Try.underlying23 Try.sizeOf3 Try.zeroValue3 ) ?_
              refine APlan.p rfl rfl (pure_move (.tmp _ _ rfl)) ?_
              refine APlan.p rfl rfl (pure_move (.tmp _ _ rfl)) ?_
              refine APlan.p rfl rfl (pure_sliceHiL Try.underlying23 Try.sizeOf3 (.tmp _ _ rfl) (.tmp _ _ rfl) (by omega) (by omega)) ?_
              refine APlan.p rfl rfl (pure_move (.tmp _ _ rfl)) ?_
              refine APlan.p rfl rfl (pure_move (.tmp _ _ rfl)) ?_
              first | (refine APlan.p rfl rfl (pure_indexL Try.underlying23 Try.sizeOf3 (.tmp _ _ rfl) (.tmp _ _ rfl) (by omega) (by omega)) ?_) | (refine APlan.p rfl rfl (pure_indexM Try.underlying23 Try.sizeOf3 (.tmp _ _ rfl) (.tmp _ _ rfl) (by omega) (by omega)) ?_)
              first | (refine APlan.p rfl rfl (pure_load1 Try.isAgg3 (.tmp _ _ rfl)) ?_) | (refine APlan.f rfl rfl (fun _ => step_load1 Try.isAgg3 (.tmp _ _ rfl) (by first | assumption | exact (by assumption : Heap.le _ _).objs _ _ (by assumption) | exact Heap.objs_set_same _ _ _ | exact (Heap.objs_set_ne _ _ (by assumption)).trans (Heap.objs_set_same _ _ _) | exact (Heap.objs_set_ne _ _ (by assumption)).trans ((Heap.objs_set_ne _ _ (by assumption)).trans (Heap.objs_set_same _ _ _)) | exact (Heap.objs_set_ne _ _ (by assumption)).trans (by assumption)) rfl) ?_)
              refine APlan.f rfl rfl (fun _ => step_bs1 Try.underlying23 Try.sizeOf3 Try.zeroValue3 rfl (.tmp _ _ rfl) (.inl rfl) ⟨rfl, rfl⟩) ?_
              refine APlan.p rfl rfl (pure_move (.tmp _ _ rfl)) ?_
              refine APlan.p rfl rfl (pure_move (.tmp _ _ rfl)) ?_
              refine APlan.p rfl rfl (pure_sliceLoL Try.underlying23 Try.sizeOf3 (.tmp _ _ rfl) (.tmp _ _ rfl) (by omega) (by omega)) ?_
              refine APlan.s rfl rfl (step_append Try.underlying23 Try.underlying23 Try.sizeOf3 Try.typeInfo3 Try.zeroValue3 rfl (by decide) (.tmp _ _ rfl) (.tmp _ _ rfl) (by exact .full) (by show (_ + _) * 8 ≤ _; simp; omega) (by repeat' (first | exact row_int _ | exact row_n | exact row_c ⟨rfl, rfl⟩ row_n | exact row_drop (row_int _) | exact row_take (row_int _) | refine row_app ?_ ?_)) (by repeat' (first | exact row_int _ | exact row_n | exact row_c ⟨rfl, rfl⟩ row_n | exact row_drop (row_int _) | exact row_take (row_int _) | refine row_app ?_ ?_))) ?_
              rintro _ _ ⟨t57, ht57, rfl, hH⟩
              obtain rfl := hH.symm
              have hf57 := Heap.fresh_of hle ht57
              have hle57 := Heap.le_in hle t57
              refine APlan.s rfl rfl (step_append Try.underlying23 Try.underlying23 Try.sizeOf3 Try.typeInfo3 Try.zeroValue3 rfl (by decide) (.tmp _ _ rfl) (.tmp _ _ rfl) (by exact .own _ (by first | assumption | exact Heap.toks_live_same _ _)) (by show (_ + _) * 8 ≤ _; simp; omega) (by repeat' (first | exact row_int _ | exact row_n | exact row_c ⟨rfl, rfl⟩ row_n | exact row_drop (row_int _) | exact row_take (row_int _) | refine row_app ?_ ?_)) (by repeat' (first | exact row_int _ | exact row_n | exact row_c ⟨rfl, rfl⟩ row_n | exact row_drop (row_int _) | exact row_take (row_int _) | refine row_app ?_ ?_))) ?_
              rintro _ _ ⟨t63, ht63, rfl, hH⟩
              obtain rfl := hH.symm
              have hf63 := Heap.fresh_of hle57 ht63
              have hle63 := Heap.le_in (Heap.le_out (t := t57) hle57 (by assumption)) t63
              refine APlan.s rfl rfl (step_append Try.underlying23 Try.underlying23 Try.sizeOf3 Try.typeInfo3 Try.zeroValue3 rfl (by decide) (.tmp _ _ rfl) (.tmp _ _ rfl) (by exact .own _ (by first | assumption | exact Heap.toks_live_same _ _)) (by show (_ + _) * 8 ≤ _; simp; omega) (by repeat' (first | exact row_int _ | exact row_n | exact row_c ⟨rfl, rfl⟩ row_n | exact row_drop (row_int _) | exact row_take (row_int _) | refine row_app ?_ ?_)) (by repeat' (first | exact row_int _ | exact row_n | exact row_c ⟨rfl, rfl⟩ row_n | exact row_drop (row_int _) | exact row_take (row_int _) | refine row_app ?_ ?_))) ?_
              rintro _ _ ⟨t67, ht67, rfl, hH⟩
              obtain rfl := hH.symm
              have hf67 := Heap.fresh_of hle63 ht67
              have hle67 := Heap.le_in (Heap.le_out (t := t63) hle63 (by assumption)) t67
              refine APlan.p rfl rfl (pure_assign (.tmp _ _ rfl)) ?_
              refine APlan.nil ?_
              refine Block.go ?_
              refine Next.go ?_
              refine Meets.mk (M := fun env H2 => ∃ to2, env = [(0, .slice 1 (l.map (.int .i64)) tl), (3, .slice 1 ((ins out (l[i]'(by omega))).map (.int .i64)) to2), (4, .int .i64 i)] ∧ H.le H2) ⟨_, rfl, hle67⟩ (sub_c rfl (sub_e rfl (slice_eq (by rw [ins_yes (j := j) (by simpa using hg36) (by simpa using hk) (by rw [List.getElem?_eq_getElem (by omega)]; simpa using hc52)]; simp)) (sub_c rfl sub_n))) (Heap.le.refl _)
            · try simp only [decide_eq_false_iff_not, ne_eq, Decidable.not_not] at hc52
              refine AWP.skip ?_
              refine Block.go ?_
              refine Next.go ?_
              refine Meets.mk (M := fun env H2 => ∃ to2, env = [(0, .slice 1 (l.map (.int .i64)) tl), (3, .slice 1 ((ins out (l[i]'(by omega))).map (.int .i64)) to2), (4, .int .i64 i)] ∧ H.le H2) ⟨_, rfl, hle⟩ (sub_c rfl (sub_e rfl (slice_eq (by rw [ins_no2 (j := j) (by simpa using hk) (by rw [List.getElem?_eq_getElem (by omega)]; simpa using hc52)])) (sub_c rfl sub_n))) (Heap.le.refl _)
        · have hh36 := hg36; try simp only [decide_eq_true_eq, decide_eq_false_iff_not, Bool.not_eq_true', Bool.not_eq_false', Int.not_lt, Int.not_le, ne_eq, Decidable.not_not] at hh36
          refine APlan.gn rfl rfl rfl rfl (by first | rfl | assumption) ?_
          refine APlan.gn rfl rfl rfl rfl (by first | rfl | assumption) ?_
          refine APlan.gn rfl rfl rfl rfl (by first | rfl | assumption) ?_
          refine APlan.gn rfl rfl rfl rfl (by first | rfl | assumption) ?_
          refine APlan.gn rfl rfl rfl rfl (by first | rfl | assumption) ?_
          refine APlan.gdead rfl rfl rfl rfl ?_
          refine APlan.gdead rfl rfl rfl rfl ?_
          refine APlan.gdead rfl rfl rfl rfl ?_
          refine APlan.gdead rfl rfl rfl rfl ?_
          refine APlan.gdead rfl rfl rfl rfl ?_
          refine APlan.gdead rfl rfl rfl rfl ?_
          refine APlan.gdead rfl rfl rfl rfl ?_
          refine APlan.gdead rfl rfl rfl rfl ?_
          refine APlan.gdead rfl rfl rfl rfl ?_
          refine APlan.gn rfl rfl rfl rfl (by first | rfl | assumption) ?_
          refine APlan.p rfl rfl (pure_pickF (.tmp _ _ rfl) (by first | rfl | assumption) ev_bool) ?_
          refine APlan.nil ?_
          refine Next.go ?_
          -- c2
          refine AWP.cond_false (.tmp _ _ rfl) (by first | rfl | assumption) ?_
          refine AWP.skip ?_
          refine Block.go ?_
          refine Next.go ?_
          refine Meets.mk (M := fun env H2 => ∃ to2, env = [(0, .slice 1 (l.map (.int .i64)) tl), (3, .slice 1 ((ins out (l[i]'(by omega))).map (.int .i64)) to2), (4, .int .i64 i)] ∧ H.le H2) ⟨_, rfl, hle⟩ (sub_c rfl (sub_e rfl (slice_eq (by rw [ins_no1 (by simpa using hg36)])) (sub_c rfl sub_n))) (Heap.le.refl _)
    · rintro _ H2 ⟨to2, rfl, hle2⟩
      -- region 4
      refine AWP.region ?_
      refine AList.p rfl (pure_move (.tmp _ _ rfl)) ?_
      refine AList.p rfl (pure_add (.tmp _ _ rfl) ev_int (by omega)) ?_
      refine AList.p rfl (pure_assign (.tmp _ _ rfl)) ?_
      refine AList.nil ?_
      refine Next.go ?_
      refine Round.mk (J := ris_J l tl H) ⟨i + 1, ins out (l[i]'(by omega)), to2, by omega, by rw [take_succ_get l i (by omega), List.foldl_append, ← ho]; rfl, rfl, hle2, rfl⟩ (sub_c rfl (sub_c rfl (sub_c rfl sub_n))) (Heap.le.refl _) (by omega)
  · try simp only [decide_eq_false_iff_not, Int.not_lt] at hc10
    refine AWP.exit ?_
    refine Next.ex ?_
    refine Next.ex ?_
    refine Block.hit ?_
    refine Next.go ?_
    refine AWP.seq ?_
    -- region 11
    refine AWP.region ?_
    refine AList.p rfl (pure_move (.tmp _ _ rfl)) ?_
    refine AList.p rfl (pure_assign (.tmp _ _ rfl)) ?_
    refine AList.nil ?_
    refine Next.go ?_
    refine AWP.ret ?_
    -- ret 0
    refine Ret.go (.cons (.weak _ _ _ rfl (.slice _ _ _)) .nil) _ (hle) ?_
    refine ⟨slice_eq ?_, rfl⟩
    rw [ho, List.take_of_length_le (by omega), rising]

end Go.Proofs.Ytdibiongjkmlpaa
