/-
  The program's graph: what walks its cells.
-/
import Derived.Test.YtdibiongjkmlpaaGi
import Derived.Test.YtdibiongjkmlpaaGk
namespace Go.Proofs.Ytdibiongjkmlpaa
open Go Go.RowKit
def pCells (M : PG) : List Int := (M.map (·.1)).mergeSort fun x y => decide (x ≤ y)
def pDirect (M : PG) (c : Int) : List Int := (pCells M).filter fun k => pNeeds M k c
theorem pents_keys (M : PG) : (pents M).map (·.1) = M.map (·.1) := by simp [pents, Function.comp_def]
theorem pCells_len (M : PG) : (pCells M).length = M.length := by simp [pCells, List.length_mergeSort]

def pdir_J (b : Nat) (M : PG) (c : Int) (H : Heap) : Nat → Env → Heap → Prop := fun k env H1 => ∃ (i t : Nat), i ≤ (pCells M).length ∧ env = [(0, .ptr (some ⟨b, 0, none⟩)), (1, .int .i64 c), (5, .slice 1 ((((pCells M).take i).filter fun k => pNeeds M k c).map (.int .i64)) (.own t)), (9, .slice 1 ((pCells M).map (.int .i64)) .shared), (10, .int .i64 (pCells M).length), (11, .int .i64 i)] ∧ H.le H1 ∧ H1.toks t = true ∧ H.toks t = false ∧ k = (pCells M).length - i

set_option maxRecDepth 100000 in
theorem KeysP_calls (m : Nat) (H : Heap) : ACall Try.prog 45 [.map (some m)] H (fun x H' => ∃ q, H.objs q = none ∧ x = .func 64 [.ptr (some ⟨q, 0, none⟩)] ∧ H' = H.set q (.box 78 [.map (some m)])) := by
  refine ACall.of_body Try.func45 rfl Try.ntmps45 Try.results45 rfl ?_
  refine AWP.seq ?_
  -- region 0
  refine AWP.region ?_
  refine AList.s rfl (step_box (.tmp _ _ rfl) (.inl rfl)) ?_
  rintro _ _ ⟨b1, hb1, rfl, hH⟩
  obtain rfl := hH.symm
  refine AList.p rfl (pure_assign ev_nilFunc) ?_
  refine AList.nil ?_
  refine Next.go ?_
  refine AWP.seq ?_
  -- region 1
  refine AWP.region ?_
  refine AList.p rfl (pure_func1 (.tmp _ _ rfl)) ?_
  refine AList.p rfl (pure_assign (.tmp _ _ rfl)) ?_
  refine AList.nil ?_
  refine Next.go ?_
  refine AWP.ret ?_
  -- ret 0
  refine Ret.go (.cons (.tmp _ _ rfl) .nil) _ (Heap.le.refl _) ?_
  exact ⟨b1, hb1, rfl, rfl⟩

set_option maxRecDepth 100000 in
theorem KeysI_calls (m : Nat) (H : Heap) : ACall Try.prog 35 [.map (some m)] H (fun x H' => ∃ q, H.objs q = none ∧ x = .func 58 [.ptr (some ⟨q, 0, none⟩)] ∧ H' = H.set q (.box 64 [.map (some m)])) := by
  refine ACall.of_body Try.func35 rfl Try.ntmps35 Try.results35 rfl ?_
  refine AWP.seq ?_
  -- region 0
  refine AWP.region ?_
  refine AList.s rfl (step_box (.tmp _ _ rfl) (.inl rfl)) ?_
  rintro _ _ ⟨b1, hb1, rfl, hH⟩
  obtain rfl := hH.symm
  refine AList.p rfl (pure_assign ev_nilFunc) ?_
  refine AList.nil ?_
  refine Next.go ?_
  refine AWP.seq ?_
  -- region 1
  refine AWP.region ?_
  refine AList.p rfl (pure_func1 (.tmp _ _ rfl)) ?_
  refine AList.p rfl (pure_assign (.tmp _ _ rfl)) ?_
  refine AList.nil ?_
  refine Next.go ?_
  refine AWP.ret ?_
  -- ret 0
  refine Ret.go (.cons (.tmp _ _ rfl) .nil) _ (Heap.le.refl _) ?_
  exact ⟨b1, hb1, rfl, rfl⟩

set_option maxRecDepth 100000 in
theorem pCells_calls (b m : Nat) (M : PG) (H : Heap) (hM : M.length ≤ 10000) (hk : (M.map (·.1)).Nodup ∧ I64s (M.map (·.1))) (hp : PBox H b m M) : ACall Try.prog 21 [.ptr (some ⟨b, 0, none⟩)] H (fun x H' => x = .slice 1 ((pCells M).map (.int .i64)) .shared ∧ H' = H) := by
  refine ACall.of_body Try.func21 rfl Try.ntmps21 Try.results21 rfl ?_
  refine AWP.seq ?_
  -- region 0
  refine AWP.region ?_
  refine AList.p rfl (pure_assign (ev_nil (sz := 1) (tl := .full))) ?_
  refine AList.nil ?_
  refine Next.go ?_
  refine AWP.seq ?_
  -- region 1
  refine AWP.region ?_
  refine AList.p rfl (pure_move (.tmp _ _ rfl)) ?_
  first | (refine AList.p rfl (pure_nilCheckI (.tmp _ _ rfl)) ?_) | (refine AList.p rfl (pure_nilCheck (.tmp _ _ rfl)) ?_) | (refine AList.p rfl (pure_nilCheckF (.tmp _ _ rfl)) ?_)
  first | (refine AList.p rfl (pure_fieldI Try.underlying80 rfl Try.sizeOf78 (.tmp _ _ rfl)) ?_) | (refine AList.p rfl (pure_field Try.underlying80 rfl Try.sizeOf78 (.tmp _ _ rfl)) ?_)
  first | (refine AList.p rfl (pure_load1 Try.isAgg78 (.tmp _ _ rfl)) ?_) | (refine AList.s rfl (step_load1 Try.isAgg78 (.tmp _ _ rfl) (by first | exact hp.box | exact (hp.mono (by assumption)).box | assumption | exact (by assumption : Heap.le _ _).objs _ _ (by assumption) | exact Heap.objs_set_same _ _ _ | exact (Heap.objs_set_ne _ _ (by assumption)).trans (Heap.objs_set_same _ _ _) | exact (Heap.objs_set_ne _ _ (by assumption)).trans ((Heap.objs_set_ne _ _ (by assumption)).trans (Heap.objs_set_same _ _ _)) | exact (Heap.objs_set_ne _ _ (by assumption)).trans (by assumption)) rfl) ?_; rintro _ _ ⟨rfl, hH⟩; obtain rfl := hH.symm)
  refine AList.s rfl (step_call0 Try.call45 (.cons (.tmp _ _ rfl) .nil) (KeysP_calls _ _)) ?_
  rintro _ _ ⟨q, hq, rfl, hH⟩
  obtain rfl := hH.symm
  have hne : m ≠ q := by rintro rfl; rw [hp.map] at hq; cases hq
  refine AList.s rfl (step_call0 Try.call34 (.cons (.tmp _ _ rfl) .nil) (sorted_ok 64 78 m q (pents M) _ (.inr rfl) (by rw [pents_len]; omega) (by rw [pents_keys]; exact hk.1) (by rw [pents_keys]; exact hk.2) (Heap.objs_set_same _ _ _) ((Heap.objs_set_ne _ _ hne).trans hp.map))) ?_
  rintro _ _ ⟨rfl, hH⟩
  obtain rfl := hH.symm
  refine AList.p rfl (pure_assign (.tmp _ _ rfl)) ?_
  refine AList.nil ?_
  refine Next.go ?_
  refine AWP.ret ?_
  -- ret 0
  refine Ret.go (.cons (.tmp _ _ rfl) .nil) _ (Heap.le_set hq _) ?_
  refine ⟨?_, rfl⟩
  rw [pCells, ← pents_keys]
  rfl

set_option maxRecDepth 100000 in
theorem pDirect_calls (b m : Nat) (M : PG) (hA : ∀ c, (pAreas M c).length ≤ 10000) (hM : M.length ≤ 10000) (hk : (M.map (·.1)).Nodup ∧ I64s (M.map (·.1))) (c : Int) (hc : -9223372036854775808 ≤ c ∧ c ≤ 9223372036854775807) (H : Heap) (hp : PBox H b m M) : ACall Try.prog 18 [.ptr (some ⟨b, 0, none⟩), .int .i64 c] H (fun x H' => x = .slice 1 ((pDirect M c).map (.int .i64)) .shared ∧ H' = H) := by
  have hle := Heap.le.refl H
  have hcl := pCells_len M
  refine ACall.of_body Try.func18 rfl Try.ntmps18 Try.results18 rfl ?_
  refine AWP.seq ?_
  -- region 0
  refine AWP.region ?_
  refine AList.p rfl (pure_assign (ev_nil (sz := 1) (tl := .full))) ?_
  refine AList.nil ?_
  refine Next.go ?_
  refine AWP.seq ?_
  -- region 1
  refine AWP.region ?_
  refine AList.p rfl (pure_assign (ev_nil (sz := 1) (tl := .full))) ?_
  refine AList.nil ?_
  refine Next.go ?_
  refine AWP.seq ?_
  refine AWP.seq ?_
  -- region 2
  refine AWP.region ?_
  refine AList.p rfl (pure_move (.tmp _ _ rfl)) ?_
  refine AList.s rfl (step_call0 Try.call21 (.cons (.tmp _ _ rfl) .nil) (pCells_calls _ _ _ _ hM hk (hp.mono hle))) ?_
  rintro _ _ ⟨rfl, hH⟩
  obtain rfl := hH.symm
  first | (refine AList.p rfl (pure_lenL Try.underlying23 (.tmp _ _ rfl)) ?_) | (refine AList.p rfl (pure_lenS Try.underlying23 (.tmp _ _ rfl)) ?_) | (refine AList.p rfl (pure_lenM Try.underlying23 (.tmp _ _ rfl)) ?_)
  refine AList.p rfl (pure_move ev_int) ?_
  refine AList.nil ?_
  refine Next.go ?_
  refine AWP.block ?_
  -- L0
  refine AWP.tag (t := 5) rfl (fun u5 hu5 => ?_)
  have hfu5 := Heap.fresh_of hle hu5
  have hleu5 := Heap.le_in hle u5
  refine AWP.loopW (pdir_J b M c H) ((pCells M).length) ⟨0, u5, Nat.zero_le _, rfl, hleu5, Heap.toks_live_same _ _, hfu5, by omega⟩ (sub_c rfl (sub_c rfl (sub_c rfl (sub_c rfl (sub_c rfl (sub_c rfl sub_n)))))) (Heap.le.refl _) ?_
  rintro _ _ H1 ⟨i, t, hi, rfl, hle, hlive, hfr, rfl⟩
  refine AWP.seq ?_
  -- region 3
  refine AWP.region ?_
  refine AList.p rfl (pure_lss (.tmp _ _ rfl) (.tmp _ _ rfl)) ?_
  refine AList.nil ?_
  refine Next.go ?_
  refine AWP.seq ?_
  -- c0
  refine AWP.cond (.tmp _ _ rfl) (fun hc12 => ?_) (fun hc12 => ?_)
  · try simp only [decide_eq_true_eq] at hc12
    refine AWP.skip ?_
    refine Next.go ?_
    refine AWP.seq ?_
    refine AWP.block ?_
    refine AWP.seq ?_
    -- region 4
    refine AWP.region ?_
    first | (refine AList.p rfl (pure_indexL Try.underlying23 Try.sizeOf3 (.tmp _ _ rfl) (.tmp _ _ rfl) (by omega) (by omega)) ?_) | (refine AList.p rfl (pure_indexM Try.underlying23 Try.sizeOf3 (.tmp _ _ rfl) (.tmp _ _ rfl) (by omega) (by omega)) ?_)
    first | (refine AList.p rfl (pure_load1 Try.isAgg3 (.tmp _ _ rfl)) ?_) | (refine AList.s rfl (step_load1 Try.isAgg3 (.tmp _ _ rfl) (by first | exact hp.box | exact (hp.mono (by assumption)).box | assumption | exact (by assumption : Heap.le _ _).objs _ _ (by assumption) | exact Heap.objs_set_same _ _ _ | exact (Heap.objs_set_ne _ _ (by assumption)).trans (Heap.objs_set_same _ _ _) | exact (Heap.objs_set_ne _ _ (by assumption)).trans ((Heap.objs_set_ne _ _ (by assumption)).trans (Heap.objs_set_same _ _ _)) | exact (Heap.objs_set_ne _ _ (by assumption)).trans (by assumption)) rfl) ?_; rintro _ _ ⟨rfl, hH⟩; obtain rfl := hH.symm)
    refine AList.p rfl (pure_assign (.tmp _ _ rfl)) ?_
    refine AList.nil ?_
    refine Next.go ?_
    refine AWP.seq ?_
    -- region 5
    refine AWP.region ?_
    refine AList.p rfl (pure_move (.tmp _ _ rfl)) ?_
    refine AList.p rfl (pure_move (.tmp _ _ rfl)) ?_
    refine AList.p rfl (pure_move (.tmp _ _ rfl)) ?_
    refine AList.s rfl (step_call0 Try.call42 (.cons (.tmp _ _ rfl) (.cons (.tmp _ _ rfl) (.cons (.tmp _ _ rfl) .nil))) (pNeeds_calls _ _ _ hA _ _ hc _ (hp.mono hle))) ?_
    rintro _ _ ⟨rfl, hH⟩
    obtain rfl := hH.symm
    refine AList.nil ?_
    refine Next.go ?_
    -- c1
    refine AWP.cond (.tmp _ _ rfl) (fun hc18 => ?_) (fun hc18 => ?_)
    · try simp only [decide_eq_true_eq, decide_eq_false_iff_not, Bool.not_eq_true', Bool.not_eq_false', Int.not_lt, Int.not_le, ne_eq, Decidable.not_not] at hc18
      -- region 6
      refine AWP.region ?_
      refine AList.p rfl (pure_move (.tmp _ _ rfl)) ?_
      refine AList.p rfl (pure_move (.tmp _ _ rfl)) ?_
      refine AList.s rfl (step_bs1 Try.underlying23 Try.sizeOf3 Try.zeroValue3 rfl (.tmp _ _ rfl) (.inl rfl) ⟨rfl, rfl⟩) ?_
      rintro _ _ ⟨rfl, hH⟩
      obtain rfl := hH.symm
      refine AList.s rfl (step_append Try.underlying23 Try.underlying23 Try.sizeOf3 Try.typeInfo3 Try.zeroValue3 rfl (by decide) (.tmp _ _ rfl) (.tmp _ _ rfl) (by exact .own _ (by first | assumption | exact Heap.toks_live_same _ _)) (by have hfl := List.length_filter_le (fun k => pNeeds M k c) ((pCells M).take i); show (_ + _) * 8 ≤ _; simp at hfl ⊢; omega) (by repeat' (first | exact row_int _ | exact row_n | exact row_c ⟨rfl, rfl⟩ row_n | exact row_drop (row_int _) | exact row_take (row_int _) | refine row_app ?_ ?_)) (by repeat' (first | exact row_int _ | exact row_n | exact row_c ⟨rfl, rfl⟩ row_n | exact row_drop (row_int _) | exact row_take (row_int _) | refine row_app ?_ ?_))) ?_
      rintro _ _ ⟨t22, ht22, rfl, hH⟩
      obtain rfl := hH.symm
      have hf22 := Heap.fresh_of hle ht22
      have hle22 := Heap.le_in (Heap.le_out (t := t) hle (by assumption)) t22
      refine AList.p rfl (pure_assign (.tmp _ _ rfl)) ?_
      refine AList.nil ?_
      refine Block.go ?_
      refine Next.go ?_
      -- region 7
      refine AWP.region ?_
      refine AList.p rfl (pure_add (.tmp _ _ rfl) ev_int (by omega)) ?_
      refine AList.p rfl (pure_move (.tmp _ _ rfl)) ?_
      refine AList.nil ?_
      refine Next.go ?_
      refine Round.mk (J := pdir_J b M c H) ⟨i + 1, t22, by omega, rfl, hle22, Heap.toks_live_same _ _, hf22, rfl⟩ (sub_c rfl (sub_c rfl (sub_e rfl (slice_eq (by rw [take_succ_get (pCells M) i (by omega)]; simp only [List.map_append, List.filter_append, List.filter_cons, List.filter_nil, Int.toNat_natCast] at hc18 ⊢; rw [if_pos (by simpa using hc18)]; simp)) (sub_c rfl (sub_c rfl (sub_c rfl sub_n)))))) (Heap.le.refl _) (by omega)
    · try simp only [decide_eq_true_eq, decide_eq_false_iff_not, Bool.not_eq_true', Bool.not_eq_false', Int.not_lt, Int.not_le, ne_eq, Decidable.not_not] at hc18
      refine AWP.skip ?_
      refine Block.go ?_
      refine Next.go ?_
      -- region 7
      refine AWP.region ?_
      refine AList.p rfl (pure_add (.tmp _ _ rfl) ev_int (by omega)) ?_
      refine AList.p rfl (pure_move (.tmp _ _ rfl)) ?_
      refine AList.nil ?_
      refine Next.go ?_
      refine Round.mk (J := pdir_J b M c H) ⟨i + 1, t, by omega, rfl, hle, hlive, hfr, rfl⟩ (sub_c rfl (sub_c rfl (sub_e rfl (slice_eq (by rw [take_succ_get (pCells M) i (by omega)]; simp only [List.map_append, List.filter_append, List.filter_cons, List.filter_nil, Int.toNat_natCast] at hc18 ⊢; rw [if_neg (by simpa using hc18)]; simp)) (sub_c rfl (sub_c rfl (sub_c rfl sub_n)))))) (Heap.le.refl _) (by omega)
  · try simp only [decide_eq_false_iff_not, Int.not_lt] at hc12
    refine AWP.exit ?_
    refine Next.ex ?_
    refine Next.ex ?_
    refine Block.hit ?_
    refine Next.go ?_
    refine AWP.seq ?_
    -- region 8
    refine AWP.region ?_
    refine AList.p rfl (pure_move (.tmp _ _ rfl)) ?_
    refine AList.p rfl (pure_assign (.tmp _ _ rfl)) ?_
    refine AList.nil ?_
    refine Next.go ?_
    refine AWP.ret ?_
    -- ret 0
    refine Ret.go (.cons (.weak _ _ _ rfl (.slice _ _ _)) .nil) _ (hle) ?_
    refine ⟨slice_eq ?_, rfl⟩
    rw [List.take_of_length_le (by omega), pDirect]

end Go.Proofs.Ytdibiongjkmlpaa
