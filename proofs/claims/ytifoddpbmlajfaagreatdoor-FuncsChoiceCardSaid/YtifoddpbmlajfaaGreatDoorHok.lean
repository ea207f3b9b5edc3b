/-
  FuncsChoice: what IF, IFERROR, ISERROR and NOT answer of values.
-/
import Derived.Test.YtifoddpbmlajfaaGreatDoorHlk
import Derived.Test.YtifoddpbmlajfaaGreatDoorH1
namespace Go.Proofs.YtifoddpbmlajfaaGreatDoor
open Go Go.RowKit

theorem right_cases {v : Val} (h : RightV v = true) : v = zeroV 0 ∨ (kindN v.bits < 3 ∧ v = ⟨1, v.bits, false, [], 0⟩) ∨ v = BoolV v.is ∨ (v.text.length ≤ 1000 ∧ v = ⟨3, 0, false, v.text, 0⟩) ∨ (FailName v.fail ≠ [] ∧ v = FailV v.fail) := by
  unfold RightV at h
  split at h
  · exact .inl (of_decide_eq_true h)
  · split at h
    · rename_i hk
      have h := of_decide_eq_true h
      by_cases q : 3 ≤ kindN v.bits
      · rw [NumV, if_pos q] at h; rw [h] at hk; exact absurd hk (by decide)
      · exact .inr (.inl ⟨by omega, by rw [NumV, if_neg q] at h; exact h⟩)
    · split at h
      · exact .inr (.inr (.inl (of_decide_eq_true h)))
      · split at h
        · rename_i hk
          have h := of_decide_eq_true h
          by_cases q : 1000 < v.text.length
          · rw [TextV, if_pos q] at h; rw [h] at hk; exact absurd hk (by decide)
          · exact .inr (.inr (.inr (.inl ⟨by omega, by rw [TextV, if_neg q] at h; exact h⟩)))
        · split at h
          · simp only [Bool.and_eq_true, decide_eq_true_eq] at h
            exact .inr (.inr (.inr (.inr ⟨h.2, h.1⟩)))
          · cases h
theorem right_text {v : Val} (h : RightV v = true) : v.text.length ≤ 1000 := by
  rcases right_cases h with h | ⟨_, h⟩ | h | ⟨h, _⟩ | ⟨_, h⟩
  · rw [h]; exact Nat.zero_le _
  · rw [h]; exact Nat.zero_le _
  · rw [h]; exact Nat.zero_le _
  · exact h
  · rw [h]; exact Nat.zero_le _

def notV (a : Val) : Val := if wrongF 0 (toBoolV a).2 = 0 then BoolV (!(toBoolV a).1) else FailV (wrongF 0 (toBoolV a).2)
def ifV (a b v : Val) : Val := if wrongF 0 (toBoolV a).2 = 0 then (if (toBoolV a).1 = true then b else v) else FailV (wrongF 0 (toBoolV a).2)
theorem w00 : wrongF 0 0 = 0 := rfl
theorem w03 : wrongF 0 3 = 3 := rfl
theorem choice_fail {a : Val} (h : RightV a = true) (hk : a.kind = 4) (b v : Val) : ifV a b v = a ∧ notV a = a := by
  rcases right_cases h with e | ⟨_, e⟩ | e | ⟨_, e⟩ | ⟨hn, e⟩
  · rw [e] at hk; exact absurd hk (show (0 : Int) ≠ 4 by decide)
  · rw [e] at hk; exact absurd hk (show (1 : Int) ≠ 4 by decide)
  · rw [e] at hk; exact absurd hk (show (2 : Int) ≠ 4 by decide)
  · rw [e] at hk; exact absurd hk (show (3 : Int) ≠ 4 by decide)
  · have hf : a.fail ≠ 0 := fun h0 => hn (by rw [h0]; rfl)
    have ht : toBoolV a = (a.is, a.fail) := by unfold toBoolV; rw [if_neg (by omega), if_neg (by omega)]
    have hw : wrongF 0 (toBoolV a).2 = a.fail := by rw [ht]; rfl
    unfold ifV notV
    rw [hw, if_neg hf, if_neg hf]
    exact ⟨e.symm, e.symm⟩
theorem toBool_er {a : Val} (h : RightV a = true) (hk : a.kind ≠ 4) : (toBoolV a).2 = 0 ∨ ((toBoolV a).2 = 3 ∧ a.kind = 3) := by
  unfold toBoolV
  split
  · exact .inl rfl
  · split
    · rename_i h3
      split
      · exact .inl rfl
      · split
        · exact .inl rfl
        · exact .inr ⟨rfl, h3⟩
    · rcases right_cases h with e | ⟨_, e⟩ | e | ⟨_, e⟩ | ⟨_, e⟩
      · left; rw [e]; rfl
      · left; rw [e]
      · left; rw [e]; rfl
      · left; rw [e]
      · exact absurd (by rw [e]; rfl) hk
theorem choice_bad {a : Val} (h : RightV a = true) (hk : a.kind ≠ 4) (ht : notV a = FailV 3) (b v : Val) : ifV a b v = notV a ∧ a.kind = 3 := by
  rcases toBool_er h hk with e | ⟨e, h3⟩
  · unfold notV at ht
    rw [e, w00, if_pos rfl] at ht
    have := congrArg Val.kind ht
    exact absurd this (show (2 : Int) ≠ 4 by decide)
  · refine ⟨?_, h3⟩
    unfold ifV notV
    rw [e, w03, if_neg (show ¬ ((3 : Int) = 0) by decide), if_neg (show ¬ ((3 : Int) = 0) by decide)]
theorem choice_good {a : Val} (h : RightV a = true) (hk : a.kind ≠ 4) (ht : notV a ≠ FailV 3) (b v : Val) : ifV a b v = if (notV a).is = true then v else b := by
  rcases toBool_er h hk with e | ⟨e, h3⟩
  · unfold ifV notV
    rw [e, w00, if_pos rfl, if_pos rfl]
    cases (toBoolV a).1 <;> rfl
  · exact absurd (by unfold notV; rw [e, w03, if_neg (show ¬ ((3 : Int) = 0) by decide)]) ht
theorem askERR_calls (q : FLoc) (po pr : AV) (a : Val) (tl : Tail) (H : Heap) : ACall Tryz.prog 9 [callerA q po pr, .str [73, 83, 69, 82, 82, 79, 82], vsS [a] tl] H (fun y H' => y = (BoolV (decide (a.kind = 4))).av ∧ H' = H) :=
  asks_calls _ _ [a] tl (show 1 ≤ 1000 by decide) (BoolV (decide (a.kind = 4))) (fun tl H => CallISERROR_calls q po pr [oneA a] tl rfl H) H
theorem askIFE_calls (q : FLoc) (po pr : AV) (a b : Val) (tl : Tail) (H : Heap) : ACall Tryz.prog 9 [callerA q po pr, .str [73, 70, 69, 82, 82, 79, 82], vsS [a, b] tl] H (fun y H' => y = (if a.kind = 4 then b else a).av ∧ H' = H) :=
  asks_calls _ _ [a, b] tl (show 2 ≤ 1000 by decide) (if a.kind = 4 then b else a) (fun tl H => CallIFERROR_calls q po pr [oneA a, oneA b] tl rfl H) H
theorem askIF_calls (q : FLoc) (po pr : AV) (a b v : Val) (tl : Tail) (h1 : a.bits < 18446744073709551616) (h2 : a.text.length ≤ 1000) (H : Heap) : ACall Tryz.prog 9 [callerA q po pr, .str [73, 70], vsS [a, b, v] tl] H (fun y H' => y = (ifV a b v).av ∧ H' = H) :=
  asks_calls _ _ [a, b, v] tl (show 3 ≤ 1000 by decide) (ifV a b v) (fun tl H => CallIF_calls q po pr [oneA a, oneA b, oneA v] tl rfl h1 h2 H) H
theorem askNOT_calls (q : FLoc) (po pr : AV) (a : Val) (tl : Tail) (h1 : a.bits < 18446744073709551616) (h2 : a.text.length ≤ 1000) (H : Heap) : ACall Tryz.prog 9 [callerA q po pr, .str [78, 79, 84], vsS [a] tl] H (fun y H' => y = (notV a).av ∧ H' = H) :=
  asks_calls _ _ [a] tl (show 1 ≤ 1000 by decide) (notV a) (fun tl H => CallNOT_calls q po pr [oneA a] tl rfl h1 h2 H) H

attribute [local irreducible] RightV BoolV FailV findLoc ifV notV toBoolV opsP

set_option maxRecDepth 100000 in
theorem Choice_step (a b v : Val) (a0 : a.bits < 18446744073709551616) (ma : a.text.length ≤ maxLen) (b0 : b.bits < 18446744073709551616) (mb : b.text.length ≤ maxLen) (v0 : v.bits < 18446744073709551616) (mv : v.text.length ≤ maxLen) (H : Heap) : ACall Tryz.prog 3 [a.av, b.av, v.av] H (fun y H' => y = .bool true ∧ H' = H) := by
  refine ACall.of_body Tryz.func3 rfl Tryz.ntmps3 Tryz.results3 rfl ?_
  refine AWP.seq ?_
  -- region 0
  refine AWP.region ?_
  refine AList.s rfl (step_boxI (.tmp _ _ rfl) (.inr ⟨_, rfl⟩)) ?_
  rintro _ _ ⟨rfl, hH⟩
  obtain rfl := hH.symm
  refine AList.s rfl (step_boxI (.tmp _ _ rfl) (.inr ⟨_, rfl⟩)) ?_
  rintro _ _ ⟨rfl, hH⟩
  obtain rfl := hH.symm
  refine AList.s rfl (step_boxI (.tmp _ _ rfl) (.inr ⟨_, rfl⟩)) ?_
  rintro _ _ ⟨rfl, hH⟩
  obtain rfl := hH.symm
  refine AList.p rfl (pure_assign ev_bool) ?_
  refine AList.nil ?_
  refine Next.go ?_
  refine AWP.seq ?_
  -- region 1
  refine AWP.region ?_
  refine AList.s rfl (step_call0 Tryz.call5 .nil (shown_calls _)) ?_
  rintro _ _ ⟨rfl, hH⟩
  obtain rfl := hH.symm
  refine AList.p rfl (pure_assign (.tmp _ _ rfl)) ?_
  refine AList.nil ?_
  refine Next.go ?_
  refine AWP.seq ?_
  -- region 2
  refine AWP.region ?_
  first | (refine AList.p rfl (pure_loadN Tryz.isAgg24 Tryz.sizeOf24 (.tmp _ _ rfl) (Nat.le_of_ble_eq_true rfl)) ?_) | (refine AList.s rfl (step_loadN Tryz.isAgg24 Tryz.sizeOf24 (.tmp _ _ rfl) (by first | assumption | exact (by assumption : Heap.le _ _).objs _ _ (by assumption) | exact Heap.objs_set_same _ _ _ | exact (Heap.objs_set_ne _ _ (by assumption)).trans (Heap.objs_set_same _ _ _) | exact (Heap.objs_set_ne _ _ (by assumption)).trans ((Heap.objs_set_ne _ _ (by assumption)).trans (Heap.objs_set_same _ _ _)) | exact (Heap.objs_set_ne _ _ (by assumption)).trans (by assumption)) (Nat.le_of_ble_eq_true rfl)) ?_; rintro _ _ ⟨rfl, hH⟩; obtain rfl := hH.symm)
  refine AList.s rfl (step_call0 Tryz.call6 (.cons (.tmp _ _ rfl) .nil) (by first | exact vRight_calls a a0 ma _ | exact vRight_calls b b0 mb _ | exact vRight_calls v v0 mv _)) ?_
  rintro _ _ ⟨rfl, hH⟩
  obtain rfl := hH.symm
  refine AList.p rfl (pure_assign (.tmp _ _ rfl)) ?_
  refine AList.nil ?_
  refine Next.go ?_
  refine AWP.seq ?_
  -- region 3
  refine AWP.region ?_
  first | (refine AList.p rfl (pure_loadN Tryz.isAgg24 Tryz.sizeOf24 (.tmp _ _ rfl) (Nat.le_of_ble_eq_true rfl)) ?_) | (refine AList.s rfl (step_loadN Tryz.isAgg24 Tryz.sizeOf24 (.tmp _ _ rfl) (by first | assumption | exact (by assumption : Heap.le _ _).objs _ _ (by assumption) | exact Heap.objs_set_same _ _ _ | exact (Heap.objs_set_ne _ _ (by assumption)).trans (Heap.objs_set_same _ _ _) | exact (Heap.objs_set_ne _ _ (by assumption)).trans ((Heap.objs_set_ne _ _ (by assumption)).trans (Heap.objs_set_same _ _ _)) | exact (Heap.objs_set_ne _ _ (by assumption)).trans (by assumption)) (Nat.le_of_ble_eq_true rfl)) ?_; rintro _ _ ⟨rfl, hH⟩; obtain rfl := hH.symm)
  refine AList.s rfl (step_call0 Tryz.call6 (.cons (.tmp _ _ rfl) .nil) (by first | exact vRight_calls a a0 ma _ | exact vRight_calls b b0 mb _ | exact vRight_calls v v0 mv _)) ?_
  rintro _ _ ⟨rfl, hH⟩
  obtain rfl := hH.symm
  refine AList.p rfl (pure_assign (.tmp _ _ rfl)) ?_
  refine AList.nil ?_
  refine Next.go ?_
  refine AWP.seq ?_
  -- region 4
  refine AWP.region ?_
  first | (refine AList.p rfl (pure_loadN Tryz.isAgg24 Tryz.sizeOf24 (.tmp _ _ rfl) (Nat.le_of_ble_eq_true rfl)) ?_) | (refine AList.s rfl (step_loadN Tryz.isAgg24 Tryz.sizeOf24 (.tmp _ _ rfl) (by first | assumption | exact (by assumption : Heap.le _ _).objs _ _ (by assumption) | exact Heap.objs_set_same _ _ _ | exact (Heap.objs_set_ne _ _ (by assumption)).trans (Heap.objs_set_same _ _ _) | exact (Heap.objs_set_ne _ _ (by assumption)).trans ((Heap.objs_set_ne _ _ (by assumption)).trans (Heap.objs_set_same _ _ _)) | exact (Heap.objs_set_ne _ _ (by assumption)).trans (by assumption)) (Nat.le_of_ble_eq_true rfl)) ?_; rintro _ _ ⟨rfl, hH⟩; obtain rfl := hH.symm)
  refine AList.s rfl (step_call0 Tryz.call6 (.cons (.tmp _ _ rfl) .nil) (by first | exact vRight_calls a a0 ma _ | exact vRight_calls b b0 mb _ | exact vRight_calls v v0 mv _)) ?_
  rintro _ _ ⟨rfl, hH⟩
  obtain rfl := hH.symm
  refine AList.p rfl (pure_assign (.tmp _ _ rfl)) ?_
  refine AList.nil ?_
  refine Next.go ?_
  refine AWP.seq ?_
  refine AWP.seqTo 37 (.bool (!RightV a || !RightV b || !RightV v)) [3, 4, 5, 6, 7] ?_ ?_
  · -- region 5
    refine AWP.region ?_
    refine AList.p rfl (pure_move (.tmp _ _ rfl)) ?_
    refine AList.p rfl (pure_not (.tmp _ _ rfl)) ?_
    refine AList.p rfl (pure_move (.tmp _ _ rfl)) ?_
    -- the guard in slot 26
    refine bool_casesL (t := 26) rfl (fun hg26 => ?_) (fun hg26 => ?_)
    · have hh26 := hg26; try simp only [Bool.not_eq_true'] at hh26
      refine AList.gn rfl rfl rfl (by first | rfl | assumption) ?_
      refine AList.gn rfl rfl rfl (by first | rfl | assumption) ?_
      refine AList.p rfl (pure_pickT (.tmp _ _ rfl) (by first | rfl | assumption) ev_bool) ?_
      refine AList.p rfl (pure_move (.tmp _ _ rfl)) ?_
      refine AList.gn rfl rfl rfl (by first | rfl | assumption) ?_
      refine AList.gn rfl rfl rfl (by first | rfl | assumption) ?_
      refine AList.p rfl (pure_pickT (.tmp _ _ rfl) (by first | rfl | assumption) ev_bool) ?_
      refine AList.p rfl (pure_move (.tmp _ _ rfl)) ?_
      refine AList.gn rfl rfl rfl (by first | rfl | assumption) ?_
      refine AList.gn rfl rfl rfl (by first | rfl | assumption) ?_
      refine AList.p rfl (pure_pickT (.tmp _ _ rfl) (by first | rfl | assumption) ev_bool) ?_
      refine AList.nil ?_
      exact ⟨rfl, sub_b rfl (by first | (simp [*]; done) | (simp; omega) | simp_all) (sub_c rfl (sub_c rfl (sub_c rfl (sub_c rfl (sub_c rfl sub_n))))), rfl⟩
    · have hh26 := hg26; try simp only [Bool.not_eq_false'] at hh26
      refine AList.gp rfl rfl rfl (by first | rfl | assumption) (pure_move (.tmp _ _ rfl)) ?_
      refine AList.gp rfl rfl rfl (by first | rfl | assumption) (pure_not (.tmp _ _ rfl)) ?_
      refine AList.p rfl (pure_pickF (.tmp _ _ rfl) (by first | rfl | assumption) (.tmp _ _ rfl)) ?_
      refine AList.p rfl (pure_move (.tmp _ _ rfl)) ?_
      -- the guard in slot 30
      refine bool_casesL (t := 30) rfl (fun hg30 => ?_) (fun hg30 => ?_)
      · have hh30 := hg30; try simp only [Bool.not_eq_true'] at hh30
        refine AList.gn rfl rfl rfl (by first | rfl | assumption) ?_
        refine AList.gn rfl rfl rfl (by first | rfl | assumption) ?_
        refine AList.p rfl (pure_pickT (.tmp _ _ rfl) (by first | rfl | assumption) ev_bool) ?_
        refine AList.p rfl (pure_move (.tmp _ _ rfl)) ?_
        refine AList.gn rfl rfl rfl (by first | rfl | assumption) ?_
        refine AList.gn rfl rfl rfl (by first | rfl | assumption) ?_
        refine AList.p rfl (pure_pickT (.tmp _ _ rfl) (by first | rfl | assumption) ev_bool) ?_
        refine AList.nil ?_
        exact ⟨rfl, sub_b rfl (by first | (simp [*]; done) | (simp; omega) | simp_all) (sub_c rfl (sub_c rfl (sub_c rfl (sub_c rfl (sub_c rfl sub_n))))), rfl⟩
      · have hh30 := hg30; try simp only [Bool.not_eq_false'] at hh30
        refine AList.gp rfl rfl rfl (by first | rfl | assumption) (pure_move (.tmp _ _ rfl)) ?_
        refine AList.gp rfl rfl rfl (by first | rfl | assumption) (pure_not (.tmp _ _ rfl)) ?_
        refine AList.p rfl (pure_pickF (.tmp _ _ rfl) (by first | rfl | assumption) (.tmp _ _ rfl)) ?_
        refine AList.p rfl (pure_move (.tmp _ _ rfl)) ?_
        -- the guard in slot 34
        refine bool_casesL (t := 34) rfl (fun hg34 => ?_) (fun hg34 => ?_)
        · have hh34 := hg34; try simp only [Bool.not_eq_true'] at hh34
          refine AList.gn rfl rfl rfl (by first | rfl | assumption) ?_
          refine AList.gn rfl rfl rfl (by first | rfl | assumption) ?_
          refine AList.p rfl (pure_pickT (.tmp _ _ rfl) (by first | rfl | assumption) ev_bool) ?_
          refine AList.nil ?_
          exact ⟨rfl, sub_b rfl (by first | (simp [*]; done) | (simp; omega) | simp_all) (sub_c rfl (sub_c rfl (sub_c rfl (sub_c rfl (sub_c rfl sub_n))))), rfl⟩
        · have hh34 := hg34; try simp only [Bool.not_eq_false'] at hh34
          refine AList.gp rfl rfl rfl (by first | rfl | assumption) (pure_move (.tmp _ _ rfl)) ?_
          refine AList.gp rfl rfl rfl (by first | rfl | assumption) (pure_not (.tmp _ _ rfl)) ?_
          refine AList.p rfl (pure_pickF (.tmp _ _ rfl) (by first | rfl | assumption) (.tmp _ _ rfl)) ?_
          refine AList.nil ?_
          exact ⟨rfl, sub_b rfl (by first | (simp [*]; done) | (simp; omega) | simp_all) (sub_c rfl (sub_c rfl (sub_c rfl (sub_c rfl (sub_c rfl sub_n))))), rfl⟩
  · refine AWP.sub [(37, _), (3, _), (4, _), (5, _), (6, _), (7, _)] (sub_c rfl (sub_c rfl (sub_c rfl (sub_c rfl (sub_c rfl (sub_c rfl sub_n)))))) ?_
    -- c0
    refine AWP.cond (.tmp _ _ rfl) (fun hc37 => ?_) (fun hc37 => ?_)
    · try simp only [decide_eq_true_eq, decide_eq_false_iff_not, Bool.not_eq_true', Bool.not_eq_false', Int.not_lt, Int.not_le, ne_eq, Decidable.not_not] at hc37
      refine AWP.seq ?_
      -- region 6
      refine AWP.region ?_
      refine AList.p rfl (pure_move (.tmp _ _ rfl)) ?_
      refine AList.p rfl (pure_assign (.tmp _ _ rfl)) ?_
      refine AList.nil ?_
      refine Next.go ?_
      refine AWP.ret ?_
      refine Next.rt ?_
      -- ret 0
      refine Ret.go (.cons (.tmp _ _ rfl) .nil) _ (Heap.le.refl _) ?_
      first | exact ⟨rfl, rfl⟩ | (refine ⟨?_, rfl⟩; obtain ⟨e1, e2⟩ := choice_fail ra hc61 b v; rw [if_pos hc61, e1, e2]; simp [packed]; done) | (refine ⟨?_, rfl⟩; obtain ⟨e1, e2⟩ := choice_bad ra hc61 hc98 b v; rw [e1, decide_eq_true rfl, decide_eq_true e2]; rfl) | (refine ⟨?_, rfl⟩; simp_all [packed]; done)
    · try simp only [decide_eq_true_eq, decide_eq_false_iff_not, Bool.not_eq_true', Bool.not_eq_false', Int.not_lt, Int.not_le, ne_eq, Decidable.not_not] at hc37
      simp only [Bool.or_eq_false_iff, Bool.not_eq_false'] at hc37
      obtain ⟨⟨ra, rb⟩, rv⟩ := hc37
      have ta := right_text ra
      refine AWP.skip ?_
      refine Next.go ?_
      refine AWP.seq ?_
      -- region 7
      refine AWP.region ?_
      refine AList.s rfl (step_call0 Tryz.call7 (.cons (ev_str rfl) .nil) (Find_calls _ _)) ?_
      rintro _ _ ⟨rfl, hH⟩
      obtain rfl := hH.symm
      refine AList.p rfl (pure_move (.tmp _ _ rfl)) ?_
      refine AList.p rfl (pure_extract (.tmp _ _ rfl) rfl) ?_
      refine AList.p rfl (pure_extract (.tmp _ _ rfl) rfl) ?_
      refine AList.s rfl (step_alloc Tryz.zeroValue29 (zr29)) ?_
      rintro _ _ ⟨b11, hb11, rfl, hH⟩
      obtain rfl := hH.symm
      refine AList.s0 (step_store Tryz.sizeOf29 (.tmp _ _ rfl) (.tmp _ _ rfl) rfl rfl (.inr ⟨_, rfl⟩) (by first | assumption | exact (by assumption : Heap.le _ _).objs _ _ (by assumption) | exact Heap.objs_set_same _ _ _ | exact (Heap.objs_set_ne _ _ (by assumption)).trans (Heap.objs_set_same _ _ _) | exact (Heap.objs_set_ne _ _ (by assumption)).trans ((Heap.objs_set_ne _ _ (by assumption)).trans (Heap.objs_set_same _ _ _)) | exact (Heap.objs_set_ne _ _ (by assumption)).trans (by assumption)) (Nat.le_of_ble_eq_true rfl)) ?_
      rintro _ _ ⟨rfl, hH⟩
      obtain rfl := hH.symm
      try first | rw [Heap.set_set] | rw [Heap.set_under (by assumption)]
      refine AList.p rfl (pure_assign (.tmp _ _ rfl)) ?_
      refine AList.nil ?_
      refine Next.go ?_
      refine AWP.frz (t := 11) rfl (by first | exact hb11 | exact Heap.fresh_set hb11 _) ?_
      refine AWP.seq ?_
      -- region 8
      refine AWP.region ?_
      first | (refine AList.p rfl (pure_loadN Tryz.isAgg29 Tryz.sizeOf29 (.tmp _ _ rfl) (Nat.le_of_ble_eq_true rfl)) ?_) | (refine AList.s rfl (step_loadN Tryz.isAgg29 Tryz.sizeOf29 (.tmp _ _ rfl) (by first | assumption | exact (by assumption : Heap.le _ _).objs _ _ (by assumption) | exact Heap.objs_set_same _ _ _ | exact (Heap.objs_set_ne _ _ (by assumption)).trans (Heap.objs_set_same _ _ _) | exact (Heap.objs_set_ne _ _ (by assumption)).trans ((Heap.objs_set_ne _ _ (by assumption)).trans (Heap.objs_set_same _ _ _)) | exact (Heap.objs_set_ne _ _ (by assumption)).trans (by assumption)) (Nat.le_of_ble_eq_true rfl)) ?_; rintro _ _ ⟨rfl, hH⟩; obtain rfl := hH.symm)
      refine AList.s rfl (step_call0 Tryz.call8 (.cons (.tmp _ _ rfl) .nil) (fNew_calls (findLoc _).1 _)) ?_
      rintro _ _ ⟨rfl, hH⟩
      obtain rfl := hH.symm
      refine AList.p rfl (pure_assign (.tmp _ _ rfl)) ?_
      refine AList.nil ?_
      refine Next.go ?_
      refine AWP.seq ?_
      refine AWP.seq ?_
      -- region 9
      refine AWP.draw [(0, true), (1, true), (2, true), (3, true), (4, true), (5, true), (6, true), (7, true), (8, true)] rfl (by decide +kernel) ?_
      refine APlan.p rfl rfl (pure_move (.tmp _ _ rfl)) ?_
      first | (refine APlan.p rfl rfl (pure_loadN Tryz.isAgg24 Tryz.sizeOf24 (.tmp _ _ rfl) (Nat.le_of_ble_eq_true rfl)) ?_) | (refine APlan.f rfl rfl (fun _ => step_loadN Tryz.isAgg24 Tryz.sizeOf24 (.tmp _ _ rfl) (by first | assumption | exact (by assumption : Heap.le _ _).objs _ _ (by assumption) | exact Heap.objs_set_same _ _ _ | exact (Heap.objs_set_ne _ _ (by assumption)).trans (Heap.objs_set_same _ _ _) | exact (Heap.objs_set_ne _ _ (by assumption)).trans ((Heap.objs_set_ne _ _ (by assumption)).trans (Heap.objs_set_same _ _ _)) | exact (Heap.objs_set_ne _ _ (by assumption)).trans (by assumption)) (Nat.le_of_ble_eq_true rfl)) ?_)
      refine APlan.f rfl rfl (fun _ => step_bs1 Tryz.underlying36 Tryz.sizeOf24 Tryz.zeroValue24 rfl (.tmp _ _ rfl) (.inr ⟨_, rfl⟩) ⟨rfl, rfl⟩) ?_
      refine APlan.f rfl rfl (fun _ => step_call0 Tryz.call9 (.cons (.tmp _ _ rfl) (.cons (ev_str rfl) (.cons (.tmp _ _ rfl) .nil))) (by first | exact askERR_calls _ _ _ a _ _ | exact askIFE_calls _ _ _ a b _ _ | exact askIF_calls _ _ _ a b v _ a0 ta _ | exact askNOT_calls _ _ _ a _ a0 ta _)) ?_
      first | (refine APlan.p rfl rfl (pure_fieldI Tryz.underlying24 rfl Tryz.sizeOf3 (.tmp _ _ rfl)) ?_) | (refine APlan.p rfl rfl (pure_field Tryz.underlying24 rfl Tryz.sizeOf3 (.tmp _ _ rfl)) ?_)
      first | (refine APlan.p rfl rfl (pure_load1 Tryz.isAgg3 (.tmp _ _ rfl)) ?_) | (refine APlan.f rfl rfl (fun _ => step_load1 Tryz.isAgg3 (.tmp _ _ rfl) (by first | assumption | exact (by assumption : Heap.le _ _).objs _ _ (by assumption) | exact Heap.objs_set_same _ _ _ | exact (Heap.objs_set_ne _ _ (by assumption)).trans (Heap.objs_set_same _ _ _) | exact (Heap.objs_set_ne _ _ (by assumption)).trans ((Heap.objs_set_ne _ _ (by assumption)).trans (Heap.objs_set_same _ _ _)) | exact (Heap.objs_set_ne _ _ (by assumption)).trans (by assumption)) rfl) ?_)
      refine APlan.p rfl rfl (pure_eql (.tmp _ _ rfl) ev_int) ?_
      refine APlan.f rfl rfl (fun _ => step_call0 Tryz.call10 (.cons (.tmp _ _ rfl) .nil) (is18_calls _ _)) ?_
      refine APlan.p rfl rfl (pure_neqA Tryz.eqGuardType24 (.tmp _ _ rfl) (.tmp _ _ rfl) (eqVal (BoolV (decide (a.kind = 4))) (BoolV (decide (a.kind = 4))))) ?_
      refine APlan.nil ?_
      refine Next.go ?_
      -- c1
      refine AWP.cond (.tmp _ _ rfl) (fun hc53 => ?_) (fun hc53 => ?_)
      · try simp only [decide_eq_false_iff_not, Bool.not_eq_true'] at hc53
        exact absurd trivial hc53
      · try simp only [decide_eq_true_eq, Bool.not_eq_false'] at hc53
        refine AWP.skip ?_
        refine Next.go ?_
        refine AWP.seq ?_
        -- region 11
        refine AWP.region ?_
        refine AList.p rfl (pure_move (.tmp _ _ rfl)) ?_
        first | (refine AList.p rfl (pure_loadN Tryz.isAgg24 Tryz.sizeOf24 (.tmp _ _ rfl) (Nat.le_of_ble_eq_true rfl)) ?_) | (refine AList.s rfl (step_loadN Tryz.isAgg24 Tryz.sizeOf24 (.tmp _ _ rfl) (by first | assumption | exact (by assumption : Heap.le _ _).objs _ _ (by assumption) | exact Heap.objs_set_same _ _ _ | exact (Heap.objs_set_ne _ _ (by assumption)).trans (Heap.objs_set_same _ _ _) | exact (Heap.objs_set_ne _ _ (by assumption)).trans ((Heap.objs_set_ne _ _ (by assumption)).trans (Heap.objs_set_same _ _ _)) | exact (Heap.objs_set_ne _ _ (by assumption)).trans (by assumption)) (Nat.le_of_ble_eq_true rfl)) ?_; rintro _ _ ⟨rfl, hH⟩; obtain rfl := hH.symm)
        first | (refine AList.p rfl (pure_loadN Tryz.isAgg24 Tryz.sizeOf24 (.tmp _ _ rfl) (Nat.le_of_ble_eq_true rfl)) ?_) | (refine AList.s rfl (step_loadN Tryz.isAgg24 Tryz.sizeOf24 (.tmp _ _ rfl) (by first | assumption | exact (by assumption : Heap.le _ _).objs _ _ (by assumption) | exact Heap.objs_set_same _ _ _ | exact (Heap.objs_set_ne _ _ (by assumption)).trans (Heap.objs_set_same _ _ _) | exact (Heap.objs_set_ne _ _ (by assumption)).trans ((Heap.objs_set_ne _ _ (by assumption)).trans (Heap.objs_set_same _ _ _)) | exact (Heap.objs_set_ne _ _ (by assumption)).trans (by assumption)) (Nat.le_of_ble_eq_true rfl)) ?_; rintro _ _ ⟨rfl, hH⟩; obtain rfl := hH.symm)
        refine AList.s rfl (step_bs2 Tryz.underlying36 Tryz.sizeOf24 Tryz.zeroValue24 rfl (.tmp _ _ rfl) (.inr ⟨_, rfl⟩) ⟨rfl, rfl⟩ (.tmp _ _ rfl) (.inr ⟨_, rfl⟩) ⟨rfl, rfl⟩) ?_
        rintro _ _ ⟨rfl, hH⟩
        obtain rfl := hH.symm
        refine AList.s rfl (step_call0 Tryz.call9 (.cons (.tmp _ _ rfl) (.cons (ev_str rfl) (.cons (.tmp _ _ rfl) .nil))) (by first | exact askERR_calls _ _ _ a _ _ | exact askIFE_calls _ _ _ a b _ _ | exact askIF_calls _ _ _ a b v _ a0 ta _ | exact askNOT_calls _ _ _ a _ a0 ta _)) ?_
        rintro _ _ ⟨rfl, hH⟩
        obtain rfl := hH.symm
        refine AList.s rfl (step_alloc Tryz.zeroValue24 (zr24)) ?_
        rintro _ _ ⟨b14, hb14, rfl, hH⟩
        obtain rfl := hH.symm
        refine AList.s0 (step_store Tryz.sizeOf24 (.tmp _ _ rfl) (.tmp _ _ rfl) rfl rfl (.inr ⟨_, rfl⟩) (by first | assumption | exact (by assumption : Heap.le _ _).objs _ _ (by assumption) | exact Heap.objs_set_same _ _ _ | exact (Heap.objs_set_ne _ _ (by assumption)).trans (Heap.objs_set_same _ _ _) | exact (Heap.objs_set_ne _ _ (by assumption)).trans ((Heap.objs_set_ne _ _ (by assumption)).trans (Heap.objs_set_same _ _ _)) | exact (Heap.objs_set_ne _ _ (by assumption)).trans (by assumption)) (Nat.le_of_ble_eq_true rfl)) ?_
        rintro _ _ ⟨rfl, hH⟩
        obtain rfl := hH.symm
        try first | rw [Heap.set_set] | rw [Heap.set_under (by assumption)]
        refine AList.nil ?_
        refine Next.go ?_
        refine AWP.frz (t := 14) rfl (by first | exact hb14 | exact Heap.fresh_set hb14 _) ?_
        refine AWP.seq ?_
        refine AWP.seq ?_
        -- region 12
        refine AWP.region ?_
        first | (refine AList.p rfl (pure_fieldI Tryz.underlying24 rfl Tryz.sizeOf3 (.tmp _ _ rfl)) ?_) | (refine AList.p rfl (pure_field Tryz.underlying24 rfl Tryz.sizeOf3 (.tmp _ _ rfl)) ?_)
        first | (refine AList.p rfl (pure_load1 Tryz.isAgg3 (.tmp _ _ rfl)) ?_) | (refine AList.s rfl (step_load1 Tryz.isAgg3 (.tmp _ _ rfl) (by first | assumption | exact (by assumption : Heap.le _ _).objs _ _ (by assumption) | exact Heap.objs_set_same _ _ _ | exact (Heap.objs_set_ne _ _ (by assumption)).trans (Heap.objs_set_same _ _ _) | exact (Heap.objs_set_ne _ _ (by assumption)).trans ((Heap.objs_set_ne _ _ (by assumption)).trans (Heap.objs_set_same _ _ _)) | exact (Heap.objs_set_ne _ _ (by assumption)).trans (by assumption)) rfl) ?_; rintro _ _ ⟨rfl, hH⟩; obtain rfl := hH.symm)
        refine AList.p rfl (pure_eql (.tmp _ _ rfl) ev_int) ?_
        refine AList.nil ?_
        refine Next.go ?_
        -- c2
        refine AWP.cond (.tmp _ _ rfl) (fun hc61 => ?_) (fun hc61 => ?_)
        · try simp only [decide_eq_true_eq] at hc61
          refine AWP.seqTo 6 (.bool (decide ((if a.kind = 4 then b else a) = b) && decide (ifV a b v = a) && decide (notV a = a))) [3, 4, 5, 13, 14] ?_ ?_
          · -- region 13
            refine AWP.draw [(0, true), (1, true), (2, true), (3, true), (4, true), (5, true), (6, true), (7, true), (8, true), (9, true), (10, true), (11, true), (12, true), (13, true), (14, true), (15, true), (16, true), (17, true), (18, true), (19, true), (20, true), (21, true)] rfl (by decide +kernel) ?_
            first | (refine APlan.p rfl rfl (pure_loadN Tryz.isAgg24 Tryz.sizeOf24 (.tmp _ _ rfl) (Nat.le_of_ble_eq_true rfl)) ?_) | (refine APlan.f rfl rfl (fun _ => step_loadN Tryz.isAgg24 Tryz.sizeOf24 (.tmp _ _ rfl) (by first | assumption | exact (by assumption : Heap.le _ _).objs _ _ (by assumption) | exact Heap.objs_set_same _ _ _ | exact (Heap.objs_set_ne _ _ (by assumption)).trans (Heap.objs_set_same _ _ _) | exact (Heap.objs_set_ne _ _ (by assumption)).trans ((Heap.objs_set_ne _ _ (by assumption)).trans (Heap.objs_set_same _ _ _)) | exact (Heap.objs_set_ne _ _ (by assumption)).trans (by assumption)) (Nat.le_of_ble_eq_true rfl)) ?_)
            first | (refine APlan.p rfl rfl (pure_loadN Tryz.isAgg24 Tryz.sizeOf24 (.tmp _ _ rfl) (Nat.le_of_ble_eq_true rfl)) ?_) | (refine APlan.f rfl rfl (fun _ => step_loadN Tryz.isAgg24 Tryz.sizeOf24 (.tmp _ _ rfl) (by first | assumption | exact (by assumption : Heap.le _ _).objs _ _ (by assumption) | exact Heap.objs_set_same _ _ _ | exact (Heap.objs_set_ne _ _ (by assumption)).trans (Heap.objs_set_same _ _ _) | exact (Heap.objs_set_ne _ _ (by assumption)).trans ((Heap.objs_set_ne _ _ (by assumption)).trans (Heap.objs_set_same _ _ _)) | exact (Heap.objs_set_ne _ _ (by assumption)).trans (by assumption)) (Nat.le_of_ble_eq_true rfl)) ?_)
            refine APlan.p rfl rfl (pure_eqlA Tryz.eqGuardType24 (.tmp _ _ rfl) (.tmp _ _ rfl) (eqVal (if a.kind = 4 then b else a) (b))) ?_
            refine APlan.p rfl rfl (pure_move (.tmp _ _ rfl)) ?_
            -- the guard in slot 65
            refine bool_casesP (t := 65) rfl (fun hg65 => ?_) (fun hg65 => ?_)
            · have hh65 := hg65; try simp only [decide_eq_true_eq] at hh65
              refine APlan.gp rfl rfl rfl rfl (by first | rfl | assumption) (pure_move (.tmp _ _ rfl)) ?_
              first | (refine APlan.gp rfl rfl rfl rfl (by first | rfl | assumption) (pure_loadN Tryz.isAgg24 Tryz.sizeOf24 (.tmp _ _ rfl) (Nat.le_of_ble_eq_true rfl)) ?_) | (refine APlan.gf rfl rfl rfl rfl (by first | rfl | assumption) (fun _ => step_loadN Tryz.isAgg24 Tryz.sizeOf24 (.tmp _ _ rfl) (by first | assumption | exact (by assumption : Heap.le _ _).objs _ _ (by assumption) | exact Heap.objs_set_same _ _ _ | exact (Heap.objs_set_ne _ _ (by assumption)).trans (Heap.objs_set_same _ _ _) | exact (Heap.objs_set_ne _ _ (by assumption)).trans ((Heap.objs_set_ne _ _ (by assumption)).trans (Heap.objs_set_same _ _ _)) | exact (Heap.objs_set_ne _ _ (by assumption)).trans (by assumption)) (Nat.le_of_ble_eq_true rfl)) ?_)
              first | (refine APlan.gp rfl rfl rfl rfl (by first | rfl | assumption) (pure_loadN Tryz.isAgg24 Tryz.sizeOf24 (.tmp _ _ rfl) (Nat.le_of_ble_eq_true rfl)) ?_) | (refine APlan.gf rfl rfl rfl rfl (by first | rfl | assumption) (fun _ => step_loadN Tryz.isAgg24 Tryz.sizeOf24 (.tmp _ _ rfl) (by first | assumption | exact (by assumption : Heap.le _ _).objs _ _ (by assumption) | exact Heap.objs_set_same _ _ _ | exact (Heap.objs_set_ne _ _ (by assumption)).trans (Heap.objs_set_same _ _ _) | exact (Heap.objs_set_ne _ _ (by assumption)).trans ((Heap.objs_set_ne _ _ (by assumption)).trans (Heap.objs_set_same _ _ _)) | exact (Heap.objs_set_ne _ _ (by assumption)).trans (by assumption)) (Nat.le_of_ble_eq_true rfl)) ?_)
              first | (refine APlan.gp rfl rfl rfl rfl (by first | rfl | assumption) (pure_loadN Tryz.isAgg24 Tryz.sizeOf24 (.tmp _ _ rfl) (Nat.le_of_ble_eq_true rfl)) ?_) | (refine APlan.gf rfl rfl rfl rfl (by first | rfl | assumption) (fun _ => step_loadN Tryz.isAgg24 Tryz.sizeOf24 (.tmp _ _ rfl) (by first | assumption | exact (by assumption : Heap.le _ _).objs _ _ (by assumption) | exact Heap.objs_set_same _ _ _ | exact (Heap.objs_set_ne _ _ (by assumption)).trans (Heap.objs_set_same _ _ _) | exact (Heap.objs_set_ne _ _ (by assumption)).trans ((Heap.objs_set_ne _ _ (by assumption)).trans (Heap.objs_set_same _ _ _)) | exact (Heap.objs_set_ne _ _ (by assumption)).trans (by assumption)) (Nat.le_of_ble_eq_true rfl)) ?_)
              refine APlan.gf rfl rfl rfl rfl (by first | rfl | assumption) (fun _ => step_bsN Tryz.underlying36 Tryz.sizeOf24 Tryz.zeroValue24 rfl rfl rfl (.cons (.tmp _ _ rfl) (.inr ⟨_, rfl⟩) (.cons (.tmp _ _ rfl) (.inr ⟨_, rfl⟩) (.cons (.tmp _ _ rfl) (.inr ⟨_, rfl⟩) .nil))) (rowq_c ⟨rfl, rfl⟩ (rowq_c ⟨rfl, rfl⟩ (rowq_c ⟨rfl, rfl⟩ rowq_n)))) ?_
              refine APlan.gf rfl rfl rfl rfl (by first | rfl | assumption) (fun _ => step_call0 Tryz.call9 (.cons (.tmp _ _ rfl) (.cons (ev_str rfl) (.cons (.tmp _ _ rfl) .nil))) (by first | exact askERR_calls _ _ _ a _ _ | exact askIFE_calls _ _ _ a b _ _ | exact askIF_calls _ _ _ a b v _ a0 ta _ | exact askNOT_calls _ _ _ a _ a0 ta _)) ?_
              first | (refine APlan.gp rfl rfl rfl rfl (by first | rfl | assumption) (pure_loadN Tryz.isAgg24 Tryz.sizeOf24 (.tmp _ _ rfl) (Nat.le_of_ble_eq_true rfl)) ?_) | (refine APlan.gf rfl rfl rfl rfl (by first | rfl | assumption) (fun _ => step_loadN Tryz.isAgg24 Tryz.sizeOf24 (.tmp _ _ rfl) (by first | assumption | exact (by assumption : Heap.le _ _).objs _ _ (by assumption) | exact Heap.objs_set_same _ _ _ | exact (Heap.objs_set_ne _ _ (by assumption)).trans (Heap.objs_set_same _ _ _) | exact (Heap.objs_set_ne _ _ (by assumption)).trans ((Heap.objs_set_ne _ _ (by assumption)).trans (Heap.objs_set_same _ _ _)) | exact (Heap.objs_set_ne _ _ (by assumption)).trans (by assumption)) (Nat.le_of_ble_eq_true rfl)) ?_)
              refine APlan.gp rfl rfl rfl rfl (by first | rfl | assumption) (pure_eqlA Tryz.eqGuardType24 (.tmp _ _ rfl) (.tmp _ _ rfl) (eqVal (ifV a b v) (a))) ?_
              refine APlan.p rfl rfl (pure_pickT (.tmp _ _ rfl) (by first | rfl | assumption) (.tmp _ _ rfl)) ?_
              refine APlan.p rfl rfl (pure_move (.tmp _ _ rfl)) ?_
              -- the guard in slot 75
              refine bool_casesP (t := 75) rfl (fun hg75 => ?_) (fun hg75 => ?_)
              · have hh75 := hg75; try simp only [decide_eq_true_eq] at hh75
                refine APlan.gp rfl rfl rfl rfl (by first | rfl | assumption) (pure_move (.tmp _ _ rfl)) ?_
                first | (refine APlan.gp rfl rfl rfl rfl (by first | rfl | assumption) (pure_loadN Tryz.isAgg24 Tryz.sizeOf24 (.tmp _ _ rfl) (Nat.le_of_ble_eq_true rfl)) ?_) | (refine APlan.gf rfl rfl rfl rfl (by first | rfl | assumption) (fun _ => step_loadN Tryz.isAgg24 Tryz.sizeOf24 (.tmp _ _ rfl) (by first | assumption | exact (by assumption : Heap.le _ _).objs _ _ (by assumption) | exact Heap.objs_set_same _ _ _ | exact (Heap.objs_set_ne _ _ (by assumption)).trans (Heap.objs_set_same _ _ _) | exact (Heap.objs_set_ne _ _ (by assumption)).trans ((Heap.objs_set_ne _ _ (by assumption)).trans (Heap.objs_set_same _ _ _)) | exact (Heap.objs_set_ne _ _ (by assumption)).trans (by assumption)) (Nat.le_of_ble_eq_true rfl)) ?_)
                refine APlan.gf rfl rfl rfl rfl (by first | rfl | assumption) (fun _ => step_bs1 Tryz.underlying36 Tryz.sizeOf24 Tryz.zeroValue24 rfl (.tmp _ _ rfl) (.inr ⟨_, rfl⟩) ⟨rfl, rfl⟩) ?_
                refine APlan.gf rfl rfl rfl rfl (by first | rfl | assumption) (fun _ => step_call0 Tryz.call9 (.cons (.tmp _ _ rfl) (.cons (ev_str rfl) (.cons (.tmp _ _ rfl) .nil))) (by first | exact askERR_calls _ _ _ a _ _ | exact askIFE_calls _ _ _ a b _ _ | exact askIF_calls _ _ _ a b v _ a0 ta _ | exact askNOT_calls _ _ _ a _ a0 ta _)) ?_
                first | (refine APlan.gp rfl rfl rfl rfl (by first | rfl | assumption) (pure_loadN Tryz.isAgg24 Tryz.sizeOf24 (.tmp _ _ rfl) (Nat.le_of_ble_eq_true rfl)) ?_) | (refine APlan.gf rfl rfl rfl rfl (by first | rfl | assumption) (fun _ => step_loadN Tryz.isAgg24 Tryz.sizeOf24 (.tmp _ _ rfl) (by first | assumption | exact (by assumption : Heap.le _ _).objs _ _ (by assumption) | exact Heap.objs_set_same _ _ _ | exact (Heap.objs_set_ne _ _ (by assumption)).trans (Heap.objs_set_same _ _ _) | exact (Heap.objs_set_ne _ _ (by assumption)).trans ((Heap.objs_set_ne _ _ (by assumption)).trans (Heap.objs_set_same _ _ _)) | exact (Heap.objs_set_ne _ _ (by assumption)).trans (by assumption)) (Nat.le_of_ble_eq_true rfl)) ?_)
                refine APlan.gp rfl rfl rfl rfl (by first | rfl | assumption) (pure_eqlA Tryz.eqGuardType24 (.tmp _ _ rfl) (.tmp _ _ rfl) (eqVal (notV a) (a))) ?_
                refine APlan.p rfl rfl (pure_pickT (.tmp _ _ rfl) (by first | rfl | assumption) (.tmp _ _ rfl)) ?_
                refine APlan.p rfl rfl (pure_assign (.tmp _ _ rfl)) ?_
                refine APlan.nil ?_
                exact ⟨rfl, sub_b rfl (by first | (simp [*]; done) | (simp; omega) | simp_all) (sub_c rfl (sub_c rfl (sub_c rfl (sub_c rfl (sub_c rfl sub_n))))), rfl⟩
              · have hh75 := hg75; try simp only [decide_eq_false_iff_not] at hh75
                refine APlan.gn rfl rfl rfl rfl (by first | rfl | assumption) ?_
                refine APlan.gn rfl rfl rfl rfl (by first | rfl | assumption) ?_
                refine APlan.gn rfl rfl rfl rfl (by first | rfl | assumption) ?_
                refine APlan.gn rfl rfl rfl rfl (by first | rfl | assumption) ?_
                refine APlan.gn rfl rfl rfl rfl (by first | rfl | assumption) ?_
                refine APlan.gn rfl rfl rfl rfl (by first | rfl | assumption) ?_
                refine APlan.p rfl rfl (pure_pickF (.tmp _ _ rfl) (by first | rfl | assumption) ev_bool) ?_
                refine APlan.p rfl rfl (pure_assign (.tmp _ _ rfl)) ?_
                refine APlan.nil ?_
                exact ⟨rfl, sub_b rfl (by first | (simp [*]; done) | (simp; omega) | simp_all) (sub_c rfl (sub_c rfl (sub_c rfl (sub_c rfl (sub_c rfl sub_n))))), rfl⟩
            · have hh65 := hg65; try simp only [decide_eq_false_iff_not] at hh65
              refine APlan.gn rfl rfl rfl rfl (by first | rfl | assumption) ?_
              refine APlan.gn rfl rfl rfl rfl (by first | rfl | assumption) ?_
              refine APlan.gn rfl rfl rfl rfl (by first | rfl | assumption) ?_
              refine APlan.gn rfl rfl rfl rfl (by first | rfl | assumption) ?_
              refine APlan.gn rfl rfl rfl rfl (by first | rfl | assumption) ?_
              refine APlan.gn rfl rfl rfl rfl (by first | rfl | assumption) ?_
              refine APlan.gn rfl rfl rfl rfl (by first | rfl | assumption) ?_
              refine APlan.gn rfl rfl rfl rfl (by first | rfl | assumption) ?_
              refine APlan.p rfl rfl (pure_pickF (.tmp _ _ rfl) (by first | rfl | assumption) ev_bool) ?_
              refine APlan.p rfl rfl (pure_move (.tmp _ _ rfl)) ?_
              refine APlan.gn rfl rfl rfl rfl (by first | rfl | assumption) ?_
              refine APlan.gn rfl rfl rfl rfl (by first | rfl | assumption) ?_
              refine APlan.gn rfl rfl rfl rfl (by first | rfl | assumption) ?_
              refine APlan.gn rfl rfl rfl rfl (by first | rfl | assumption) ?_
              refine APlan.gn rfl rfl rfl rfl (by first | rfl | assumption) ?_
              refine APlan.gn rfl rfl rfl rfl (by first | rfl | assumption) ?_
              refine APlan.p rfl rfl (pure_pickF (.tmp _ _ rfl) (by first | rfl | assumption) ev_bool) ?_
              refine APlan.p rfl rfl (pure_assign (.tmp _ _ rfl)) ?_
              refine APlan.nil ?_
              exact ⟨rfl, sub_b rfl (by first | (simp [*]; done) | (simp; omega) | simp_all) (sub_c rfl (sub_c rfl (sub_c rfl (sub_c rfl (sub_c rfl sub_n))))), rfl⟩
          · refine AWP.sub [(6, _), (3, _), (4, _), (5, _), (13, _), (14, _)] (sub_c rfl (sub_c rfl (sub_c rfl (sub_c rfl (sub_c rfl (sub_c rfl sub_n)))))) ?_
            refine AWP.ret ?_
            refine Next.rt ?_
            -- ret 1
            refine Ret.go (.cons (.tmp _ _ rfl) .nil) _ (Heap.le.refl _) ?_
            first | exact ⟨rfl, rfl⟩ | (refine ⟨?_, rfl⟩; obtain ⟨e1, e2⟩ := choice_fail ra hc61 b v; rw [if_pos hc61, e1, e2]; simp [packed]; done) | (refine ⟨?_, rfl⟩; obtain ⟨e1, e2⟩ := choice_bad ra hc61 hc98 b v; rw [e1, decide_eq_true rfl, decide_eq_true e2]; rfl) | (refine ⟨?_, rfl⟩; simp_all [packed]; done)
        · try simp only [decide_eq_false_iff_not] at hc61
          refine AWP.skip ?_
          refine Next.go ?_
          refine AWP.seq ?_
          refine AWP.seq ?_
          -- region 14
          refine AWP.region ?_
          first | (refine AList.p rfl (pure_loadN Tryz.isAgg24 Tryz.sizeOf24 (.tmp _ _ rfl) (Nat.le_of_ble_eq_true rfl)) ?_) | (refine AList.s rfl (step_loadN Tryz.isAgg24 Tryz.sizeOf24 (.tmp _ _ rfl) (by first | assumption | exact (by assumption : Heap.le _ _).objs _ _ (by assumption) | exact Heap.objs_set_same _ _ _ | exact (Heap.objs_set_ne _ _ (by assumption)).trans (Heap.objs_set_same _ _ _) | exact (Heap.objs_set_ne _ _ (by assumption)).trans ((Heap.objs_set_ne _ _ (by assumption)).trans (Heap.objs_set_same _ _ _)) | exact (Heap.objs_set_ne _ _ (by assumption)).trans (by assumption)) (Nat.le_of_ble_eq_true rfl)) ?_; rintro _ _ ⟨rfl, hH⟩; obtain rfl := hH.symm)
          first | (refine AList.p rfl (pure_loadN Tryz.isAgg24 Tryz.sizeOf24 (.tmp _ _ rfl) (Nat.le_of_ble_eq_true rfl)) ?_) | (refine AList.s rfl (step_loadN Tryz.isAgg24 Tryz.sizeOf24 (.tmp _ _ rfl) (by first | assumption | exact (by assumption : Heap.le _ _).objs _ _ (by assumption) | exact Heap.objs_set_same _ _ _ | exact (Heap.objs_set_ne _ _ (by assumption)).trans (Heap.objs_set_same _ _ _) | exact (Heap.objs_set_ne _ _ (by assumption)).trans ((Heap.objs_set_ne _ _ (by assumption)).trans (Heap.objs_set_same _ _ _)) | exact (Heap.objs_set_ne _ _ (by assumption)).trans (by assumption)) (Nat.le_of_ble_eq_true rfl)) ?_; rintro _ _ ⟨rfl, hH⟩; obtain rfl := hH.symm)
          refine AList.p rfl (pure_neqA Tryz.eqGuardType24 (.tmp _ _ rfl) (.tmp _ _ rfl) (eqVal (if a.kind = 4 then b else a) (a))) ?_
          refine AList.nil ?_
          refine Next.go ?_
          -- c3
          refine AWP.cond (.tmp _ _ rfl) (fun hc85 => ?_) (fun hc85 => ?_)
          · try simp only [decide_eq_false_iff_not, Bool.not_eq_true'] at hc85
            exact absurd (if_neg hc61) hc85
          · try simp only [decide_eq_true_eq, Bool.not_eq_false'] at hc85
            refine AWP.skip ?_
            refine Next.go ?_
            refine AWP.seq ?_
            -- region 16
            refine AWP.region ?_
            refine AList.p rfl (pure_move (.tmp _ _ rfl)) ?_
            first | (refine AList.p rfl (pure_loadN Tryz.isAgg24 Tryz.sizeOf24 (.tmp _ _ rfl) (Nat.le_of_ble_eq_true rfl)) ?_) | (refine AList.s rfl (step_loadN Tryz.isAgg24 Tryz.sizeOf24 (.tmp _ _ rfl) (by first | assumption | exact (by assumption : Heap.le _ _).objs _ _ (by assumption) | exact Heap.objs_set_same _ _ _ | exact (Heap.objs_set_ne _ _ (by assumption)).trans (Heap.objs_set_same _ _ _) | exact (Heap.objs_set_ne _ _ (by assumption)).trans ((Heap.objs_set_ne _ _ (by assumption)).trans (Heap.objs_set_same _ _ _)) | exact (Heap.objs_set_ne _ _ (by assumption)).trans (by assumption)) (Nat.le_of_ble_eq_true rfl)) ?_; rintro _ _ ⟨rfl, hH⟩; obtain rfl := hH.symm)
            first | (refine AList.p rfl (pure_loadN Tryz.isAgg24 Tryz.sizeOf24 (.tmp _ _ rfl) (Nat.le_of_ble_eq_true rfl)) ?_) | (refine AList.s rfl (step_loadN Tryz.isAgg24 Tryz.sizeOf24 (.tmp _ _ rfl) (by first | assumption | exact (by assumption : Heap.le _ _).objs _ _ (by assumption) | exact Heap.objs_set_same _ _ _ | exact (Heap.objs_set_ne _ _ (by assumption)).trans (Heap.objs_set_same _ _ _) | exact (Heap.objs_set_ne _ _ (by assumption)).trans ((Heap.objs_set_ne _ _ (by assumption)).trans (Heap.objs_set_same _ _ _)) | exact (Heap.objs_set_ne _ _ (by assumption)).trans (by assumption)) (Nat.le_of_ble_eq_true rfl)) ?_; rintro _ _ ⟨rfl, hH⟩; obtain rfl := hH.symm)
            first | (refine AList.p rfl (pure_loadN Tryz.isAgg24 Tryz.sizeOf24 (.tmp _ _ rfl) (Nat.le_of_ble_eq_true rfl)) ?_) | (refine AList.s rfl (step_loadN Tryz.isAgg24 Tryz.sizeOf24 (.tmp _ _ rfl) (by first | assumption | exact (by assumption : Heap.le _ _).objs _ _ (by assumption) | exact Heap.objs_set_same _ _ _ | exact (Heap.objs_set_ne _ _ (by assumption)).trans (Heap.objs_set_same _ _ _) | exact (Heap.objs_set_ne _ _ (by assumption)).trans ((Heap.objs_set_ne _ _ (by assumption)).trans (Heap.objs_set_same _ _ _)) | exact (Heap.objs_set_ne _ _ (by assumption)).trans (by assumption)) (Nat.le_of_ble_eq_true rfl)) ?_; rintro _ _ ⟨rfl, hH⟩; obtain rfl := hH.symm)
            refine AList.s rfl (step_bsN Tryz.underlying36 Tryz.sizeOf24 Tryz.zeroValue24 rfl rfl rfl (.cons (.tmp _ _ rfl) (.inr ⟨_, rfl⟩) (.cons (.tmp _ _ rfl) (.inr ⟨_, rfl⟩) (.cons (.tmp _ _ rfl) (.inr ⟨_, rfl⟩) .nil))) (rowq_c ⟨rfl, rfl⟩ (rowq_c ⟨rfl, rfl⟩ (rowq_c ⟨rfl, rfl⟩ rowq_n)))) ?_
            rintro _ _ ⟨rfl, hH⟩
            obtain rfl := hH.symm
            refine AList.s rfl (step_call0 Tryz.call9 (.cons (.tmp _ _ rfl) (.cons (ev_str rfl) (.cons (.tmp _ _ rfl) .nil))) (by first | exact askERR_calls _ _ _ a _ _ | exact askIFE_calls _ _ _ a b _ _ | exact askIF_calls _ _ _ a b v _ a0 ta _ | exact askNOT_calls _ _ _ a _ a0 ta _)) ?_
            rintro _ _ ⟨rfl, hH⟩
            obtain rfl := hH.symm
            refine AList.s rfl (step_alloc Tryz.zeroValue24 (zr24)) ?_
            rintro _ _ ⟨b15, hb15, rfl, hH⟩
            obtain rfl := hH.symm
            refine AList.s0 (step_store Tryz.sizeOf24 (.tmp _ _ rfl) (.tmp _ _ rfl) rfl rfl (.inr ⟨_, rfl⟩) (by first | assumption | exact (by assumption : Heap.le _ _).objs _ _ (by assumption) | exact Heap.objs_set_same _ _ _ | exact (Heap.objs_set_ne _ _ (by assumption)).trans (Heap.objs_set_same _ _ _) | exact (Heap.objs_set_ne _ _ (by assumption)).trans ((Heap.objs_set_ne _ _ (by assumption)).trans (Heap.objs_set_same _ _ _)) | exact (Heap.objs_set_ne _ _ (by assumption)).trans (by assumption)) (Nat.le_of_ble_eq_true rfl)) ?_
            rintro _ _ ⟨rfl, hH⟩
            obtain rfl := hH.symm
            try first | rw [Heap.set_set] | rw [Heap.set_under (by assumption)]
            refine AList.nil ?_
            refine Next.go ?_
            refine AWP.frz (t := 15) rfl (by first | exact hb15 | exact Heap.fresh_set hb15 _) ?_
            refine AWP.seq ?_
            -- region 17
            refine AWP.region ?_
            refine AList.p rfl (pure_move (.tmp _ _ rfl)) ?_
            first | (refine AList.p rfl (pure_loadN Tryz.isAgg24 Tryz.sizeOf24 (.tmp _ _ rfl) (Nat.le_of_ble_eq_true rfl)) ?_) | (refine AList.s rfl (step_loadN Tryz.isAgg24 Tryz.sizeOf24 (.tmp _ _ rfl) (by first | assumption | exact (by assumption : Heap.le _ _).objs _ _ (by assumption) | exact Heap.objs_set_same _ _ _ | exact (Heap.objs_set_ne _ _ (by assumption)).trans (Heap.objs_set_same _ _ _) | exact (Heap.objs_set_ne _ _ (by assumption)).trans ((Heap.objs_set_ne _ _ (by assumption)).trans (Heap.objs_set_same _ _ _)) | exact (Heap.objs_set_ne _ _ (by assumption)).trans (by assumption)) (Nat.le_of_ble_eq_true rfl)) ?_; rintro _ _ ⟨rfl, hH⟩; obtain rfl := hH.symm)
            refine AList.s rfl (step_bs1 Tryz.underlying36 Tryz.sizeOf24 Tryz.zeroValue24 rfl (.tmp _ _ rfl) (.inr ⟨_, rfl⟩) ⟨rfl, rfl⟩) ?_
            rintro _ _ ⟨rfl, hH⟩
            obtain rfl := hH.symm
            refine AList.s rfl (step_call0 Tryz.call9 (.cons (.tmp _ _ rfl) (.cons (ev_str rfl) (.cons (.tmp _ _ rfl) .nil))) (by first | exact askERR_calls _ _ _ a _ _ | exact askIFE_calls _ _ _ a b _ _ | exact askIF_calls _ _ _ a b v _ a0 ta _ | exact askNOT_calls _ _ _ a _ a0 ta _)) ?_
            rintro _ _ ⟨rfl, hH⟩
            obtain rfl := hH.symm
            refine AList.s rfl (step_alloc Tryz.zeroValue24 (zr24)) ?_
            rintro _ _ ⟨b16, hb16, rfl, hH⟩
            obtain rfl := hH.symm
            refine AList.s0 (step_store Tryz.sizeOf24 (.tmp _ _ rfl) (.tmp _ _ rfl) rfl rfl (.inr ⟨_, rfl⟩) (by first | assumption | exact (by assumption : Heap.le _ _).objs _ _ (by assumption) | exact Heap.objs_set_same _ _ _ | exact (Heap.objs_set_ne _ _ (by assumption)).trans (Heap.objs_set_same _ _ _) | exact (Heap.objs_set_ne _ _ (by assumption)).trans ((Heap.objs_set_ne _ _ (by assumption)).trans (Heap.objs_set_same _ _ _)) | exact (Heap.objs_set_ne _ _ (by assumption)).trans (by assumption)) (Nat.le_of_ble_eq_true rfl)) ?_
            rintro _ _ ⟨rfl, hH⟩
            obtain rfl := hH.symm
            try first | rw [Heap.set_set] | rw [Heap.set_under (by assumption)]
            refine AList.nil ?_
            refine Next.go ?_
            refine AWP.frz (t := 16) rfl (by first | exact hb16 | exact Heap.fresh_set hb16 _) ?_
            refine AWP.seq ?_
            refine AWP.seq ?_
            -- region 18
            refine AWP.draw [(0, true), (1, true), (2, true)] rfl (by decide +kernel) ?_
            first | (refine APlan.p rfl rfl (pure_loadN Tryz.isAgg24 Tryz.sizeOf24 (.tmp _ _ rfl) (Nat.le_of_ble_eq_true rfl)) ?_) | (refine APlan.f rfl rfl (fun _ => step_loadN Tryz.isAgg24 Tryz.sizeOf24 (.tmp _ _ rfl) (by first | assumption | exact (by assumption : Heap.le _ _).objs _ _ (by assumption) | exact Heap.objs_set_same _ _ _ | exact (Heap.objs_set_ne _ _ (by assumption)).trans (Heap.objs_set_same _ _ _) | exact (Heap.objs_set_ne _ _ (by assumption)).trans ((Heap.objs_set_ne _ _ (by assumption)).trans (Heap.objs_set_same _ _ _)) | exact (Heap.objs_set_ne _ _ (by assumption)).trans (by assumption)) (Nat.le_of_ble_eq_true rfl)) ?_)
            refine APlan.f rfl rfl (fun _ => step_call0 Tryz.call11 (.cons ev_int .nil) (fail18_calls _ _)) ?_
            refine APlan.p rfl rfl (pure_eqlA Tryz.eqGuardType24 (.tmp _ _ rfl) (.tmp _ _ rfl) (eqVal (notV a) (FailV 3))) ?_
            refine APlan.nil ?_
            refine Next.go ?_
            -- c4
            refine AWP.cond (.tmp _ _ rfl) (fun hc98 => ?_) (fun hc98 => ?_)
            · try simp only [decide_eq_true_eq] at hc98
              refine AWP.seqTo 6 (.bool (decide (ifV a b v = notV a) && decide (a.kind = 3))) [4, 5, 15, 16] ?_ ?_
              · -- region 19
                refine AWP.region ?_
                first | (refine AList.p rfl (pure_loadN Tryz.isAgg24 Tryz.sizeOf24 (.tmp _ _ rfl) (Nat.le_of_ble_eq_true rfl)) ?_) | (refine AList.s rfl (step_loadN Tryz.isAgg24 Tryz.sizeOf24 (.tmp _ _ rfl) (by first | assumption | exact (by assumption : Heap.le _ _).objs _ _ (by assumption) | exact Heap.objs_set_same _ _ _ | exact (Heap.objs_set_ne _ _ (by assumption)).trans (Heap.objs_set_same _ _ _) | exact (Heap.objs_set_ne _ _ (by assumption)).trans ((Heap.objs_set_ne _ _ (by assumption)).trans (Heap.objs_set_same _ _ _)) | exact (Heap.objs_set_ne _ _ (by assumption)).trans (by assumption)) (Nat.le_of_ble_eq_true rfl)) ?_; rintro _ _ ⟨rfl, hH⟩; obtain rfl := hH.symm)
                first | (refine AList.p rfl (pure_loadN Tryz.isAgg24 Tryz.sizeOf24 (.tmp _ _ rfl) (Nat.le_of_ble_eq_true rfl)) ?_) | (refine AList.s rfl (step_loadN Tryz.isAgg24 Tryz.sizeOf24 (.tmp _ _ rfl) (by first | assumption | exact (by assumption : Heap.le _ _).objs _ _ (by assumption) | exact Heap.objs_set_same _ _ _ | exact (Heap.objs_set_ne _ _ (by assumption)).trans (Heap.objs_set_same _ _ _) | exact (Heap.objs_set_ne _ _ (by assumption)).trans ((Heap.objs_set_ne _ _ (by assumption)).trans (Heap.objs_set_same _ _ _)) | exact (Heap.objs_set_ne _ _ (by assumption)).trans (by assumption)) (Nat.le_of_ble_eq_true rfl)) ?_; rintro _ _ ⟨rfl, hH⟩; obtain rfl := hH.symm)
                refine AList.p rfl (pure_eqlA Tryz.eqGuardType24 (.tmp _ _ rfl) (.tmp _ _ rfl) (eqVal (ifV a b v) (notV a))) ?_
                refine AList.p rfl (pure_move (.tmp _ _ rfl)) ?_
                -- the guard in slot 102
                refine bool_casesL (t := 102) rfl (fun hg102 => ?_) (fun hg102 => ?_)
                · have hh102 := hg102; try simp only [decide_eq_true_eq] at hh102
                  first | (refine AList.gp rfl rfl rfl (by first | rfl | assumption) (pure_fieldI Tryz.underlying24 rfl Tryz.sizeOf3 (.tmp _ _ rfl)) ?_) | (refine AList.gp rfl rfl rfl (by first | rfl | assumption) (pure_field Tryz.underlying24 rfl Tryz.sizeOf3 (.tmp _ _ rfl)) ?_)
                  first | (refine AList.gp rfl rfl rfl (by first | rfl | assumption) (pure_load1 Tryz.isAgg3 (.tmp _ _ rfl)) ?_) | (refine AList.gs rfl rfl rfl (by first | rfl | assumption) (step_load1 Tryz.isAgg3 (.tmp _ _ rfl) (by first | assumption | exact (by assumption : Heap.le _ _).objs _ _ (by assumption) | exact Heap.objs_set_same _ _ _ | exact (Heap.objs_set_ne _ _ (by assumption)).trans (Heap.objs_set_same _ _ _) | exact (Heap.objs_set_ne _ _ (by assumption)).trans ((Heap.objs_set_ne _ _ (by assumption)).trans (Heap.objs_set_same _ _ _)) | exact (Heap.objs_set_ne _ _ (by assumption)).trans (by assumption)) rfl) ?_; rintro _ _ ⟨rfl, hH⟩; obtain rfl := hH.symm)
                  refine AList.gp rfl rfl rfl (by first | rfl | assumption) (pure_eql (.tmp _ _ rfl) ev_int) ?_
                  refine AList.p rfl (pure_pickT (.tmp _ _ rfl) (by first | rfl | assumption) (.tmp _ _ rfl)) ?_
                  refine AList.p rfl (pure_assign (.tmp _ _ rfl)) ?_
                  refine AList.nil ?_
                  exact ⟨rfl, sub_b rfl (by first | (simp [*]; done) | (simp; omega) | simp_all) (sub_c rfl (sub_c rfl (sub_c rfl (sub_c rfl sub_n)))), rfl⟩
                · have hh102 := hg102; try simp only [decide_eq_false_iff_not] at hh102
                  refine AList.gn rfl rfl rfl (by first | rfl | assumption) ?_
                  refine AList.gn rfl rfl rfl (by first | rfl | assumption) ?_
                  refine AList.gn rfl rfl rfl (by first | rfl | assumption) ?_
                  refine AList.p rfl (pure_pickF (.tmp _ _ rfl) (by first | rfl | assumption) ev_bool) ?_
                  refine AList.p rfl (pure_assign (.tmp _ _ rfl)) ?_
                  refine AList.nil ?_
                  exact ⟨rfl, sub_b rfl (by first | (simp [*]; done) | (simp; omega) | simp_all) (sub_c rfl (sub_c rfl (sub_c rfl (sub_c rfl sub_n)))), rfl⟩
              · refine AWP.sub [(6, _), (4, _), (5, _), (15, _), (16, _)] (sub_c rfl (sub_c rfl (sub_c rfl (sub_c rfl (sub_c rfl sub_n))))) ?_
                refine AWP.ret ?_
                refine Next.rt ?_
                -- ret 2
                refine Ret.go (.cons (.tmp _ _ rfl) .nil) _ (Heap.le.refl _) ?_
                first | exact ⟨rfl, rfl⟩ | (refine ⟨?_, rfl⟩; obtain ⟨e1, e2⟩ := choice_fail ra hc61 b v; rw [if_pos hc61, e1, e2]; simp [packed]; done) | (refine ⟨?_, rfl⟩; obtain ⟨e1, e2⟩ := choice_bad ra hc61 hc98 b v; rw [e1, decide_eq_true rfl, decide_eq_true e2]; rfl) | (refine ⟨?_, rfl⟩; simp_all [packed]; done)
            · try simp only [decide_eq_false_iff_not] at hc98
              refine AWP.skip ?_
              refine Next.go ?_
              refine AWP.seq ?_
              refine AWP.seq ?_
              -- region 20
              refine AWP.region ?_
              first | (refine AList.p rfl (pure_fieldI Tryz.underlying24 rfl Tryz.sizeOf4 (.tmp _ _ rfl)) ?_) | (refine AList.p rfl (pure_field Tryz.underlying24 rfl Tryz.sizeOf4 (.tmp _ _ rfl)) ?_)
              first | (refine AList.p rfl (pure_load1 Tryz.isAgg4 (.tmp _ _ rfl)) ?_) | (refine AList.s rfl (step_load1 Tryz.isAgg4 (.tmp _ _ rfl) (by first | assumption | exact (by assumption : Heap.le _ _).objs _ _ (by assumption) | exact Heap.objs_set_same _ _ _ | exact (Heap.objs_set_ne _ _ (by assumption)).trans (Heap.objs_set_same _ _ _) | exact (Heap.objs_set_ne _ _ (by assumption)).trans ((Heap.objs_set_ne _ _ (by assumption)).trans (Heap.objs_set_same _ _ _)) | exact (Heap.objs_set_ne _ _ (by assumption)).trans (by assumption)) rfl) ?_; rintro _ _ ⟨rfl, hH⟩; obtain rfl := hH.symm)
              refine AList.nil ?_
              refine Next.go ?_
              -- c5
              refine AWP.cond (.tmp _ _ rfl) (fun hc108 => ?_) (fun hc108 => ?_)
              · try simp only [decide_eq_true_eq, decide_eq_false_iff_not, Bool.not_eq_true', Bool.not_eq_false', Int.not_lt, Int.not_le, ne_eq, Decidable.not_not] at hc108
                refine AWP.seq ?_
                have hg := choice_good ra hc61 hc98 b v
                -- region 21
                refine AWP.region ?_
                first | (refine AList.p rfl (pure_loadN Tryz.isAgg24 Tryz.sizeOf24 (.tmp _ _ rfl) (Nat.le_of_ble_eq_true rfl)) ?_) | (refine AList.s rfl (step_loadN Tryz.isAgg24 Tryz.sizeOf24 (.tmp _ _ rfl) (by first | assumption | exact (by assumption : Heap.le _ _).objs _ _ (by assumption) | exact Heap.objs_set_same _ _ _ | exact (Heap.objs_set_ne _ _ (by assumption)).trans (Heap.objs_set_same _ _ _) | exact (Heap.objs_set_ne _ _ (by assumption)).trans ((Heap.objs_set_ne _ _ (by assumption)).trans (Heap.objs_set_same _ _ _)) | exact (Heap.objs_set_ne _ _ (by assumption)).trans (by assumption)) (Nat.le_of_ble_eq_true rfl)) ?_; rintro _ _ ⟨rfl, hH⟩; obtain rfl := hH.symm)
                first | (refine AList.p rfl (pure_loadN Tryz.isAgg24 Tryz.sizeOf24 (.tmp _ _ rfl) (Nat.le_of_ble_eq_true rfl)) ?_) | (refine AList.s rfl (step_loadN Tryz.isAgg24 Tryz.sizeOf24 (.tmp _ _ rfl) (by first | assumption | exact (by assumption : Heap.le _ _).objs _ _ (by assumption) | exact Heap.objs_set_same _ _ _ | exact (Heap.objs_set_ne _ _ (by assumption)).trans (Heap.objs_set_same _ _ _) | exact (Heap.objs_set_ne _ _ (by assumption)).trans ((Heap.objs_set_ne _ _ (by assumption)).trans (Heap.objs_set_same _ _ _)) | exact (Heap.objs_set_ne _ _ (by assumption)).trans (by assumption)) (Nat.le_of_ble_eq_true rfl)) ?_; rintro _ _ ⟨rfl, hH⟩; obtain rfl := hH.symm)
                refine AList.p rfl (pure_eqlA Tryz.eqGuardType24 (.tmp _ _ rfl) (.tmp _ _ rfl) (eqVal (ifV a b v) (v))) ?_
                refine AList.p rfl (pure_assign (.tmp _ _ rfl)) ?_
                refine AList.nil ?_
                refine Next.go ?_
                refine AWP.ret ?_
                refine Next.rt ?_
                -- ret 3
                refine Ret.go (.cons (.tmp _ _ rfl) .nil) _ (Heap.le.refl _) ?_
                first | exact ⟨rfl, rfl⟩ | (refine ⟨?_, rfl⟩; obtain ⟨e1, e2⟩ := choice_fail ra hc61 b v; rw [if_pos hc61, e1, e2]; simp [packed]; done) | (refine ⟨?_, rfl⟩; obtain ⟨e1, e2⟩ := choice_bad ra hc61 hc98 b v; rw [e1, decide_eq_true rfl, decide_eq_true e2]; rfl) | (refine ⟨?_, rfl⟩; simp_all [packed]; done)
              · try simp only [decide_eq_true_eq, decide_eq_false_iff_not, Bool.not_eq_true', Bool.not_eq_false', Int.not_lt, Int.not_le, ne_eq, Decidable.not_not] at hc108
                refine AWP.skip ?_
                refine Next.go ?_
                refine AWP.seq ?_
                have hg := choice_good ra hc61 hc98 b v
                -- region 22
                refine AWP.region ?_
                first | (refine AList.p rfl (pure_loadN Tryz.isAgg24 Tryz.sizeOf24 (.tmp _ _ rfl) (Nat.le_of_ble_eq_true rfl)) ?_) | (refine AList.s rfl (step_loadN Tryz.isAgg24 Tryz.sizeOf24 (.tmp _ _ rfl) (by first | assumption | exact (by assumption : Heap.le _ _).objs _ _ (by assumption) | exact Heap.objs_set_same _ _ _ | exact (Heap.objs_set_ne _ _ (by assumption)).trans (Heap.objs_set_same _ _ _) | exact (Heap.objs_set_ne _ _ (by assumption)).trans ((Heap.objs_set_ne _ _ (by assumption)).trans (Heap.objs_set_same _ _ _)) | exact (Heap.objs_set_ne _ _ (by assumption)).trans (by assumption)) (Nat.le_of_ble_eq_true rfl)) ?_; rintro _ _ ⟨rfl, hH⟩; obtain rfl := hH.symm)
                first | (refine AList.p rfl (pure_loadN Tryz.isAgg24 Tryz.sizeOf24 (.tmp _ _ rfl) (Nat.le_of_ble_eq_true rfl)) ?_) | (refine AList.s rfl (step_loadN Tryz.isAgg24 Tryz.sizeOf24 (.tmp _ _ rfl) (by first | assumption | exact (by assumption : Heap.le _ _).objs _ _ (by assumption) | exact Heap.objs_set_same _ _ _ | exact (Heap.objs_set_ne _ _ (by assumption)).trans (Heap.objs_set_same _ _ _) | exact (Heap.objs_set_ne _ _ (by assumption)).trans ((Heap.objs_set_ne _ _ (by assumption)).trans (Heap.objs_set_same _ _ _)) | exact (Heap.objs_set_ne _ _ (by assumption)).trans (by assumption)) (Nat.le_of_ble_eq_true rfl)) ?_; rintro _ _ ⟨rfl, hH⟩; obtain rfl := hH.symm)
                refine AList.p rfl (pure_eqlA Tryz.eqGuardType24 (.tmp _ _ rfl) (.tmp _ _ rfl) (eqVal (ifV a b v) (b))) ?_
                refine AList.p rfl (pure_assign (.tmp _ _ rfl)) ?_
                refine AList.nil ?_
                refine Next.go ?_
                refine AWP.ret ?_
                -- ret 4
                refine Ret.go (.cons (.tmp _ _ rfl) .nil) _ (Heap.le.refl _) ?_
                first | exact ⟨rfl, rfl⟩ | (refine ⟨?_, rfl⟩; obtain ⟨e1, e2⟩ := choice_fail ra hc61 b v; rw [if_pos hc61, e1, e2]; simp [packed]; done) | (refine ⟨?_, rfl⟩; obtain ⟨e1, e2⟩ := choice_bad ra hc61 hc98 b v; rw [e1, decide_eq_true rfl, decide_eq_true e2]; rfl) | (refine ⟨?_, rfl⟩; simp_all [packed]; done)

end Go.Proofs.YtifoddpbmlajfaaGreatDoor
