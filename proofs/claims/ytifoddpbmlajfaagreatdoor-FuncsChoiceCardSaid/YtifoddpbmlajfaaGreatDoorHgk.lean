/-
  What NOT, IF, IFERROR and ISERROR answer.
-/
import Derived.Test.YtifoddpbmlajfaaGreatDoorHck
namespace Go.Proofs.YtifoddpbmlajfaaGreatDoor
open Go Go.RowKit


theorem fresh_outF {H : Heap} {b c : Nat} {y : AObj} (h : H.objs c = none) (hc : c ≠ b) : (H.set b y).objs c = none := (Heap.objs_set_ne _ _ hc).trans h
set_option maxRecDepth 100000 in
theorem otherNOT_calls (b : Nat) (q : FLoc) (po pr : AV) (l : List ArgN) (tl : Tail) (f : Int) (hn : l.length = 1) (hv : (scalarV l[0]).bits < 18446744073709551616) (ht : (scalarV l[0]).text.length ≤ 1000) (H : Heap) (hb : H.objs b = some (callB (callerA q po pr) l tl f)) : ACall Tryz.prog 54 [.ptr (some ⟨b, 0, none⟩), .str [78, 79, 84]] H (fun y H' => y = (BoolV (!(toBoolV (scalarV l[0])).1)).av ∧ H' = H.set b (callB (callerA q po pr) l tl (wrongF f (toBoolV (scalarV l[0])).2))) := by
  refine ACall.of_body Tryz.func54 rfl Tryz.ntmps54 Tryz.results54 rfl ?_
  refine AWP.seq ?_
  -- region 0
  refine AWP.region ?_
  refine AList.s rfl (step_alloc Tryz.zeroValue24 (zr24)) ?_
  rintro _ _ ⟨b4, hb4, rfl, hH⟩
  obtain rfl := hH.symm
  refine AList.nil ?_
  refine Next.go ?_
  refine AWP.seq ?_
  refine AWP.seq ?_
  have hne4 : b ≠ b4 := by rintro rfl; rw [hb] at hb4; cases hb4
  have hne4x := hne4.symm
  -- region 1
  refine AWP.region ?_
  refine AList.p rfl (pure_move (.tmp _ _ rfl)) ?_
  refine AList.nil ?_
  refine Next.go ?_
  refine AWP.block ?_
  refine AWP.seq ?_
  -- region 2
  refine AWP.region ?_
  refine AList.p rfl (pure_eqlStr (.tmp _ _ rfl) (ev_str rfl)) ?_
  refine AList.p rfl (pure_assign (.tmp _ _ rfl)) ?_
  refine AList.nil ?_
  refine Next.go ?_
  -- c0
  refine AWP.cond_true (.tmp _ _ rfl) (by rfl) ?_
  refine AWP.seq ?_
  -- region 3
  refine AWP.region ?_
  refine AList.p rfl (pure_move (.tmp _ _ rfl)) ?_
  refine AList.s rfl (step_call0 Tryz.call88 (.cons (.tmp _ _ rfl) (.cons ev_int .nil)) (truth_calls b q po pr l tl _ 0 (by omega) (by omega) (by assumption) (by assumption) _ (by first | assumption | exact hI | exact (Heap.objs_set_ne _ _ (by assumption)).trans hb | exact Heap.objs_set_same _ _ _ | exact (Heap.objs_set_ne _ _ (by assumption)).trans (Heap.objs_set_same _ _ _)))) ?_
  rintro _ _ ⟨rfl, rfl⟩
  rw [Heap.set_comm hne4x]
  replace hb4 := fresh_outF (y := callB (callerA q po pr) l tl (wrongF f (toBoolV (scalarV l[0])).2)) hb4 hne4x
  refine AList.p rfl (pure_not (.tmp _ _ rfl)) ?_
  refine AList.s rfl (step_call0 Tryz.call22 (.cons (.tmp _ _ rfl) .nil) (vBool_calls _ _)) ?_
  rintro _ _ ⟨rfl, hH⟩
  obtain rfl := hH.symm
  refine AList.s0 (step_store Tryz.sizeOf24 (.tmp _ _ rfl) (.tmp _ _ rfl) rfl rfl (.inr ⟨_, rfl⟩) (by first | exact (Heap.objs_set_ne _ _ (by assumption)).trans hb | assumption | exact (by assumption : Heap.le _ _).objs _ _ (by assumption) | exact Heap.objs_set_same _ _ _ | exact (Heap.objs_set_ne _ _ (by assumption)).trans (Heap.objs_set_same _ _ _) | exact (Heap.objs_set_ne _ _ (by assumption)).trans ((Heap.objs_set_ne _ _ (by assumption)).trans (Heap.objs_set_same _ _ _)) | exact (Heap.objs_set_ne _ _ (by assumption)).trans (by assumption)) (Nat.le_of_ble_eq_true rfl)) ?_
  rintro _ _ ⟨rfl, hH⟩
  obtain rfl := hH.symm
  try first | rw [Heap.set_set] | rw [Heap.set_under (by assumption)]
  refine AList.nil ?_
  refine Next.go ?_
  refine AWP.frz (t := 4) rfl (by first | exact hb4 | exact Heap.fresh_set hb4 _) ?_
  refine AWP.ret ?_
  refine Block.rt ?_
  refine Next.rt ?_
  -- ret 0
  refine Ret.go (.cons (.cellI _ _ _ _ rfl Tryz.isAgg24 Tryz.sizeOf24 rfl) .nil) _ (Heap.le.refl _) ?_
  first | exact ⟨rfl, rfl⟩ | exact ⟨rfl, (Heap.set_self hb).symm⟩ | (refine ⟨?_, rfl⟩; first | (rw [if_pos (by assumption)]; rfl) | (rw [if_neg (by simp_all)]; rfl)) | (refine ⟨?_, (Heap.set_self hb).symm⟩; first | (rw [if_pos (by assumption)]; rfl) | (rw [if_pos (by simp_all)]; rfl) | (rw [if_neg (by assumption)]; rfl) | (rw [if_neg (by simp_all)]; rfl))

set_option maxRecDepth 100000 in
theorem otherIF_calls (b : Nat) (q : FLoc) (po pr : AV) (l : List ArgN) (tl : Tail) (f : Int) (hn : l.length = 3) (hv : (scalarV l[0]).bits < 18446744073709551616) (ht : (scalarV l[0]).text.length ≤ 1000) (H : Heap) (hb : H.objs b = some (callB (callerA q po pr) l tl f)) : ACall Tryz.prog 54 [.ptr (some ⟨b, 0, none⟩), .str [73, 70]] H (fun y H' => y = (if (toBoolV (scalarV l[0])).1 = true then scalarV l[1] else scalarV l[2]).av ∧ H' = H.set b (callB (callerA q po pr) l tl (wrongF f (toBoolV (scalarV l[0])).2))) := by
  refine ACall.of_body Tryz.func54 rfl Tryz.ntmps54 Tryz.results54 rfl ?_
  refine AWP.seq ?_
  -- region 0
  refine AWP.region ?_
  refine AList.s rfl (step_alloc Tryz.zeroValue24 (zr24)) ?_
  rintro _ _ ⟨b4, hb4, rfl, hH⟩
  obtain rfl := hH.symm
  refine AList.nil ?_
  refine Next.go ?_
  refine AWP.seq ?_
  refine AWP.seq ?_
  have hne4 : b ≠ b4 := by rintro rfl; rw [hb] at hb4; cases hb4
  have hne4x := hne4.symm
  -- region 1
  refine AWP.region ?_
  refine AList.p rfl (pure_move (.tmp _ _ rfl)) ?_
  refine AList.nil ?_
  refine Next.go ?_
  refine AWP.block ?_
  refine AWP.seq ?_
  -- region 2
  refine AWP.region ?_
  refine AList.p rfl (pure_eqlStr (.tmp _ _ rfl) (ev_str rfl)) ?_
  refine AList.p rfl (pure_assign (.tmp _ _ rfl)) ?_
  refine AList.nil ?_
  refine Next.go ?_
  -- c0
  refine AWP.cond_false (.tmp _ _ rfl) (by rfl) ?_
  refine AWP.seq ?_
  -- region 4
  refine AWP.region ?_
  refine AList.p rfl (pure_eqlStr (.tmp _ _ rfl) (ev_str rfl)) ?_
  refine AList.p rfl (pure_assign (.tmp _ _ rfl)) ?_
  refine AList.nil ?_
  refine Next.go ?_
  -- c1
  refine AWP.cond_true (.tmp _ _ rfl) (by rfl) ?_
  refine AWP.seq ?_
  refine AWP.seq ?_
  -- region 5
  refine AWP.region ?_
  refine AList.p rfl (pure_move (.tmp _ _ rfl)) ?_
  refine AList.s rfl (step_call0 Tryz.call88 (.cons (.tmp _ _ rfl) (.cons ev_int .nil)) (truth_calls b q po pr l tl _ 0 (by omega) (by omega) (by assumption) (by assumption) _ (by first | assumption | exact hI | exact (Heap.objs_set_ne _ _ (by assumption)).trans hb | exact Heap.objs_set_same _ _ _ | exact (Heap.objs_set_ne _ _ (by assumption)).trans (Heap.objs_set_same _ _ _)))) ?_
  rintro _ _ ⟨rfl, rfl⟩
  rw [Heap.set_comm hne4x]
  replace hb4 := fresh_outF (y := callB (callerA q po pr) l tl (wrongF f (toBoolV (scalarV l[0])).2)) hb4 hne4x
  refine AList.nil ?_
  refine Next.go ?_
  -- c2
  refine AWP.cond (.tmp _ _ rfl) (fun hc19 => ?_) (fun hc19 => ?_)
  · try simp only [decide_eq_true_eq, decide_eq_false_iff_not, Bool.not_eq_true', Bool.not_eq_false', Int.not_lt, Int.not_le, ne_eq, Decidable.not_not] at hc19
    refine AWP.seq ?_
    -- region 6
    refine AWP.region ?_
    refine AList.p rfl (pure_move (.tmp _ _ rfl)) ?_
    refine AList.s rfl (step_call0 Tryz.call80 (.cons (.tmp _ _ rfl) (.cons ev_int .nil)) (scalar_calls b _ l tl _ 1 (by omega) (by omega) _ (by first | assumption | exact hI | exact (Heap.objs_set_ne _ _ (by assumption)).trans hb | exact Heap.objs_set_same _ _ _ | exact (Heap.objs_set_ne _ _ (by assumption)).trans (Heap.objs_set_same _ _ _)))) ?_
    rintro _ _ ⟨rfl, hH⟩
    obtain rfl := hH.symm
    refine AList.s0 (step_store Tryz.sizeOf24 (.tmp _ _ rfl) (.tmp _ _ rfl) rfl rfl (.inr ⟨_, rfl⟩) (by first | exact (Heap.objs_set_ne _ _ (by assumption)).trans hb | assumption | exact (by assumption : Heap.le _ _).objs _ _ (by assumption) | exact Heap.objs_set_same _ _ _ | exact (Heap.objs_set_ne _ _ (by assumption)).trans (Heap.objs_set_same _ _ _) | exact (Heap.objs_set_ne _ _ (by assumption)).trans ((Heap.objs_set_ne _ _ (by assumption)).trans (Heap.objs_set_same _ _ _)) | exact (Heap.objs_set_ne _ _ (by assumption)).trans (by assumption)) (Nat.le_of_ble_eq_true rfl)) ?_
    rintro _ _ ⟨rfl, hH⟩
    obtain rfl := hH.symm
    try first | rw [Heap.set_set] | rw [Heap.set_under (by assumption)]
    refine AList.nil ?_
    refine Next.go ?_
    refine AWP.frz (t := 4) rfl (by first | exact hb4 | exact Heap.fresh_set hb4 _) ?_
    refine AWP.ret ?_
    refine Next.rt ?_
    refine Block.rt ?_
    refine Next.rt ?_
    -- ret 0
    refine Ret.go (.cons (.cellI _ _ _ _ rfl Tryz.isAgg24 Tryz.sizeOf24 rfl) .nil) _ (Heap.le.refl _) ?_
    first | exact ⟨rfl, rfl⟩ | exact ⟨rfl, (Heap.set_self hb).symm⟩ | (refine ⟨?_, rfl⟩; first | (rw [if_pos (by assumption)]; rfl) | (rw [if_neg (by simp_all)]; rfl)) | (refine ⟨?_, (Heap.set_self hb).symm⟩; first | (rw [if_pos (by assumption)]; rfl) | (rw [if_pos (by simp_all)]; rfl) | (rw [if_neg (by assumption)]; rfl) | (rw [if_neg (by simp_all)]; rfl))
  · try simp only [decide_eq_true_eq, decide_eq_false_iff_not, Bool.not_eq_true', Bool.not_eq_false', Int.not_lt, Int.not_le, ne_eq, Decidable.not_not] at hc19
    refine AWP.skip ?_
    refine Next.go ?_
    refine AWP.seq ?_
    refine AWP.seq ?_
    -- region 7
    refine AWP.region ?_
    refine AList.p rfl (pure_move (.tmp _ _ rfl)) ?_
    first | (refine AList.p rfl (pure_nilCheckI (.tmp _ _ rfl)) ?_) | (refine AList.p rfl (pure_nilCheck (.tmp _ _ rfl)) ?_) | (refine AList.p rfl (pure_nilCheckF (.tmp _ _ rfl)) ?_)
    first | (refine AList.p rfl (pure_fieldI Tryz.underlying79 rfl Tryz.sizeOf40 (.tmp _ _ rfl)) ?_) | (refine AList.p rfl (pure_field Tryz.underlying79 rfl Tryz.sizeOf40 (.tmp _ _ rfl)) ?_)
    first | (refine AList.p rfl (pure_load1 Tryz.isAgg40 (.tmp _ _ rfl)) ?_) | (refine AList.s rfl (step_load1 Tryz.isAgg40 (.tmp _ _ rfl) (by first | exact (Heap.objs_set_ne _ _ (by assumption)).trans hb | assumption | exact (by assumption : Heap.le _ _).objs _ _ (by assumption) | exact Heap.objs_set_same _ _ _ | exact (Heap.objs_set_ne _ _ (by assumption)).trans (Heap.objs_set_same _ _ _) | exact (Heap.objs_set_ne _ _ (by assumption)).trans ((Heap.objs_set_ne _ _ (by assumption)).trans (Heap.objs_set_same _ _ _)) | exact (Heap.objs_set_ne _ _ (by assumption)).trans (by assumption)) rfl) ?_; rintro _ _ ⟨rfl, hH⟩; obtain rfl := hH.symm)
    first | (refine AList.p rfl (pure_lenL Tryz.underlying40 (.tmp _ _ rfl)) ?_) | (refine AList.p rfl (pure_lenS Tryz.underlying40 (.tmp _ _ rfl)) ?_) | (refine AList.p rfl (pure_lenM Tryz.underlying40 (.tmp _ _ rfl)) ?_)
    refine AList.p rfl (pure_eql (.tmp _ _ rfl) ev_int) ?_
    refine AList.nil ?_
    refine Next.go ?_
    -- c3
    refine AWP.cond (.tmp _ _ rfl) (fun hc27 => ?_) (fun hc27 => ?_)
    · try simp only [decide_eq_true_eq] at hc27
      refine AWP.seq ?_
      -- region 8
      refine AWP.region ?_
      refine AList.p rfl (pure_move (.tmp _ _ rfl)) ?_
      refine AList.s rfl (step_call0 Tryz.call80 (.cons (.tmp _ _ rfl) (.cons ev_int .nil)) (scalar_calls b _ l tl _ 2 (by omega) (by omega) _ (by first | assumption | exact hI | exact (Heap.objs_set_ne _ _ (by assumption)).trans hb | exact Heap.objs_set_same _ _ _ | exact (Heap.objs_set_ne _ _ (by assumption)).trans (Heap.objs_set_same _ _ _)))) ?_
      rintro _ _ ⟨rfl, hH⟩
      obtain rfl := hH.symm
      refine AList.s0 (step_store Tryz.sizeOf24 (.tmp _ _ rfl) (.tmp _ _ rfl) rfl rfl (.inr ⟨_, rfl⟩) (by first | exact (Heap.objs_set_ne _ _ (by assumption)).trans hb | assumption | exact (by assumption : Heap.le _ _).objs _ _ (by assumption) | exact Heap.objs_set_same _ _ _ | exact (Heap.objs_set_ne _ _ (by assumption)).trans (Heap.objs_set_same _ _ _) | exact (Heap.objs_set_ne _ _ (by assumption)).trans ((Heap.objs_set_ne _ _ (by assumption)).trans (Heap.objs_set_same _ _ _)) | exact (Heap.objs_set_ne _ _ (by assumption)).trans (by assumption)) (Nat.le_of_ble_eq_true rfl)) ?_
      rintro _ _ ⟨rfl, hH⟩
      obtain rfl := hH.symm
      try first | rw [Heap.set_set] | rw [Heap.set_under (by assumption)]
      refine AList.nil ?_
      refine Next.go ?_
      refine AWP.frz (t := 4) rfl (by first | exact hb4 | exact Heap.fresh_set hb4 _) ?_
      refine AWP.ret ?_
      refine Next.rt ?_
      refine Block.rt ?_
      refine Next.rt ?_
      -- ret 1
      refine Ret.go (.cons (.cellI _ _ _ _ rfl Tryz.isAgg24 Tryz.sizeOf24 rfl) .nil) _ (Heap.le.refl _) ?_
      first | exact ⟨rfl, rfl⟩ | exact ⟨rfl, (Heap.set_self hb).symm⟩ | (refine ⟨?_, rfl⟩; first | (rw [if_pos (by assumption)]; rfl) | (rw [if_neg (by simp_all)]; rfl)) | (refine ⟨?_, (Heap.set_self hb).symm⟩; first | (rw [if_pos (by assumption)]; rfl) | (rw [if_pos (by simp_all)]; rfl) | (rw [if_neg (by assumption)]; rfl) | (rw [if_neg (by simp_all)]; rfl))
    · try simp only [decide_eq_false_iff_not] at hc27
      omega

set_option maxRecDepth 100000 in
theorem otherIFERROR_calls (b : Nat) (q : FLoc) (po pr : AV) (l : List ArgN) (tl : Tail) (f : Int) (hn : l.length = 2)  (H : Heap) (hb : H.objs b = some (callB (callerA q po pr) l tl f)) : ACall Tryz.prog 54 [.ptr (some ⟨b, 0, none⟩), .str [73, 70, 69, 82, 82, 79, 82]] H (fun y H' => y = (if (scalarV l[0]).kind = 4 then scalarV l[1] else scalarV l[0]).av ∧ H' = H.set b (callB (callerA q po pr) l tl (f))) := by
  refine ACall.of_body Tryz.func54 rfl Tryz.ntmps54 Tryz.results54 rfl ?_
  refine AWP.seq ?_
  -- region 0
  refine AWP.region ?_
  refine AList.s rfl (step_alloc Tryz.zeroValue24 (zr24)) ?_
  rintro _ _ ⟨b4, hb4, rfl, hH⟩
  obtain rfl := hH.symm
  refine AList.nil ?_
  refine Next.go ?_
  refine AWP.seq ?_
  refine AWP.seq ?_
  have hne4 : b ≠ b4 := by rintro rfl; rw [hb] at hb4; cases hb4
  have hne4x := hne4.symm
  -- region 1
  refine AWP.region ?_
  refine AList.p rfl (pure_move (.tmp _ _ rfl)) ?_
  refine AList.nil ?_
  refine Next.go ?_
  refine AWP.block ?_
  refine AWP.seq ?_
  -- region 2
  refine AWP.region ?_
  refine AList.p rfl (pure_eqlStr (.tmp _ _ rfl) (ev_str rfl)) ?_
  refine AList.p rfl (pure_assign (.tmp _ _ rfl)) ?_
  refine AList.nil ?_
  refine Next.go ?_
  -- c0
  refine AWP.cond_false (.tmp _ _ rfl) (by rfl) ?_
  refine AWP.seq ?_
  -- region 4
  refine AWP.region ?_
  refine AList.p rfl (pure_eqlStr (.tmp _ _ rfl) (ev_str rfl)) ?_
  refine AList.p rfl (pure_assign (.tmp _ _ rfl)) ?_
  refine AList.nil ?_
  refine Next.go ?_
  -- c1
  refine AWP.cond_false (.tmp _ _ rfl) (by rfl) ?_
  refine AWP.seq ?_
  refine AWP.seq ?_
  -- region 10
  refine AWP.region ?_
  refine AList.p rfl (pure_eqlStr (.tmp _ _ rfl) (ev_str rfl)) ?_
  refine AList.p rfl (pure_assign (.tmp _ _ rfl)) ?_
  refine AList.nil ?_
  refine Next.go ?_
  -- c4
  refine AWP.cond_true (.tmp _ _ rfl) (by rfl) ?_
  refine AWP.skip ?_
  refine Next.go ?_
  -- c5
  refine AWP.cond_true (.tmp _ _ rfl) (by rfl) ?_
  refine AWP.seq ?_
  -- region 12
  refine AWP.region ?_
  refine AList.p rfl (pure_move (.tmp _ _ rfl)) ?_
  refine AList.s rfl (step_call0 Tryz.call80 (.cons (.tmp _ _ rfl) (.cons ev_int .nil)) (scalar_calls b _ l tl _ 0 (by omega) (by omega) _ (by first | assumption | exact hI | exact (Heap.objs_set_ne _ _ (by assumption)).trans hb | exact Heap.objs_set_same _ _ _ | exact (Heap.objs_set_ne _ _ (by assumption)).trans (Heap.objs_set_same _ _ _)))) ?_
  rintro _ _ ⟨rfl, hH⟩
  obtain rfl := hH.symm
  refine AList.s rfl (step_alloc Tryz.zeroValue24 (zr24)) ?_
  rintro _ _ ⟨b5, hb5, rfl, hH⟩
  obtain rfl := hH.symm
  have hn4_5 := Heap.ne_of (by first | exact (Heap.objs_set_ne _ _ (by assumption)).trans hb | assumption | exact (by assumption : Heap.le _ _).objs _ _ (by assumption) | exact Heap.objs_set_same _ _ _ | exact (Heap.objs_set_ne _ _ (by assumption)).trans (Heap.objs_set_same _ _ _) | exact (Heap.objs_set_ne _ _ (by assumption)).trans ((Heap.objs_set_ne _ _ (by assumption)).trans (Heap.objs_set_same _ _ _)) | exact (Heap.objs_set_ne _ _ (by assumption)).trans (by assumption)) hb5
  refine AList.s0 (step_store Tryz.sizeOf24 (.tmp _ _ rfl) (.tmp _ _ rfl) rfl rfl (.inr ⟨_, rfl⟩) (by first | exact (Heap.objs_set_ne _ _ (by assumption)).trans hb | assumption | exact (by assumption : Heap.le _ _).objs _ _ (by assumption) | exact Heap.objs_set_same _ _ _ | exact (Heap.objs_set_ne _ _ (by assumption)).trans (Heap.objs_set_same _ _ _) | exact (Heap.objs_set_ne _ _ (by assumption)).trans ((Heap.objs_set_ne _ _ (by assumption)).trans (Heap.objs_set_same _ _ _)) | exact (Heap.objs_set_ne _ _ (by assumption)).trans (by assumption)) (Nat.le_of_ble_eq_true rfl)) ?_
  rintro _ _ ⟨rfl, hH⟩
  obtain rfl := hH.symm
  try first | rw [Heap.set_set] | rw [Heap.set_under (by assumption)]
  refine AList.nil ?_
  refine Next.go ?_
  refine AWP.frz (t := 5) rfl (by first | exact hb5 | exact Heap.fresh_set hb5 _) ?_
  refine AWP.seq ?_
  refine AWP.seq ?_
  -- region 13
  refine AWP.region ?_
  first | (refine AList.p rfl (pure_fieldI Tryz.underlying24 rfl Tryz.sizeOf3 (.tmp _ _ rfl)) ?_) | (refine AList.p rfl (pure_field Tryz.underlying24 rfl Tryz.sizeOf3 (.tmp _ _ rfl)) ?_)
  first | (refine AList.p rfl (pure_load1 Tryz.isAgg3 (.tmp _ _ rfl)) ?_) | (refine AList.s rfl (step_load1 Tryz.isAgg3 (.tmp _ _ rfl) (by first | exact (Heap.objs_set_ne _ _ (by assumption)).trans hb | assumption | exact (by assumption : Heap.le _ _).objs _ _ (by assumption) | exact Heap.objs_set_same _ _ _ | exact (Heap.objs_set_ne _ _ (by assumption)).trans (Heap.objs_set_same _ _ _) | exact (Heap.objs_set_ne _ _ (by assumption)).trans ((Heap.objs_set_ne _ _ (by assumption)).trans (Heap.objs_set_same _ _ _)) | exact (Heap.objs_set_ne _ _ (by assumption)).trans (by assumption)) rfl) ?_; rintro _ _ ⟨rfl, hH⟩; obtain rfl := hH.symm)
  refine AList.p rfl (pure_eql (.tmp _ _ rfl) ev_int) ?_
  refine AList.p rfl (pure_move (.tmp _ _ rfl)) ?_
  -- the guard in slot 39
  refine bool_casesL (t := 39) rfl (fun hg39 => ?_) (fun hg39 => ?_)
  · have hh39 := hg39; try simp only [decide_eq_true_eq] at hh39
    first | (refine AList.gp rfl rfl rfl (by first | rfl | assumption) (pure_fieldI Tryz.underlying24 rfl Tryz.sizeOf3 (.tmp _ _ rfl)) ?_) | (refine AList.gp rfl rfl rfl (by first | rfl | assumption) (pure_field Tryz.underlying24 rfl Tryz.sizeOf3 (.tmp _ _ rfl)) ?_)
    first | (refine AList.gp rfl rfl rfl (by first | rfl | assumption) (pure_load1 Tryz.isAgg3 (.tmp _ _ rfl)) ?_) | (refine AList.gs rfl rfl rfl (by first | rfl | assumption) (step_load1 Tryz.isAgg3 (.tmp _ _ rfl) (by first | exact (Heap.objs_set_ne _ _ (by assumption)).trans hb | assumption | exact (by assumption : Heap.le _ _).objs _ _ (by assumption) | exact Heap.objs_set_same _ _ _ | exact (Heap.objs_set_ne _ _ (by assumption)).trans (Heap.objs_set_same _ _ _) | exact (Heap.objs_set_ne _ _ (by assumption)).trans ((Heap.objs_set_ne _ _ (by assumption)).trans (Heap.objs_set_same _ _ _)) | exact (Heap.objs_set_ne _ _ (by assumption)).trans (by assumption)) rfl) ?_; rintro _ _ ⟨rfl, hH⟩; obtain rfl := hH.symm)
    refine AList.gp rfl rfl rfl (by first | rfl | assumption) (pure_eql (.tmp _ _ rfl) ev_int) ?_
    refine AList.gp rfl rfl rfl (by first | rfl | assumption) (pure_move (.tmp _ _ rfl)) ?_
    -- the guard in slot 43
    refine bool_casesL (t := 43) rfl (fun hg43 => ?_) (fun hg43 => ?_)
    · have hh43 := hg43; try simp only [decide_eq_true_eq] at hh43
      refine AList.gn rfl rfl rfl (by first | rfl | assumption) ?_
      refine AList.gn rfl rfl rfl (by first | rfl | assumption) ?_
      refine AList.gp rfl rfl rfl (by first | rfl | assumption) (pure_pickT (.tmp _ _ rfl) (by first | rfl | assumption) ev_bool) ?_
      refine AList.p rfl (pure_pickT (.tmp _ _ rfl) (by first | rfl | assumption) (.tmp _ _ rfl)) ?_
      refine AList.nil ?_
      refine Next.go ?_
      -- c6
      refine AWP.cond_true (.tmp _ _ rfl) (by first | rfl | assumption) ?_
      refine AWP.seq ?_
      -- region 14
      refine AWP.region ?_
      refine AList.p rfl (pure_move (.tmp _ _ rfl)) ?_
      refine AList.s rfl (step_call0 Tryz.call80 (.cons (.tmp _ _ rfl) (.cons ev_int .nil)) (scalar_calls b _ l tl _ 1 (by omega) (by omega) _ (by first | assumption | exact hI | exact (Heap.objs_set_ne _ _ (by assumption)).trans hb | exact Heap.objs_set_same _ _ _ | exact (Heap.objs_set_ne _ _ (by assumption)).trans (Heap.objs_set_same _ _ _)))) ?_
      rintro _ _ ⟨rfl, hH⟩
      obtain rfl := hH.symm
      refine AList.s0 (step_store Tryz.sizeOf24 (.tmp _ _ rfl) (.tmp _ _ rfl) rfl rfl (.inr ⟨_, rfl⟩) (by first | exact (Heap.objs_set_ne _ _ (by assumption)).trans hb | assumption | exact (by assumption : Heap.le _ _).objs _ _ (by assumption) | exact Heap.objs_set_same _ _ _ | exact (Heap.objs_set_ne _ _ (by assumption)).trans (Heap.objs_set_same _ _ _) | exact (Heap.objs_set_ne _ _ (by assumption)).trans ((Heap.objs_set_ne _ _ (by assumption)).trans (Heap.objs_set_same _ _ _)) | exact (Heap.objs_set_ne _ _ (by assumption)).trans (by assumption)) (Nat.le_of_ble_eq_true rfl)) ?_
      rintro _ _ ⟨rfl, hH⟩
      obtain rfl := hH.symm
      try first | rw [Heap.set_set] | rw [Heap.set_under (by assumption)]
      refine AList.nil ?_
      refine Next.go ?_
      refine AWP.frz (t := 4) rfl (by first | exact hb4 | exact Heap.fresh_set hb4 _) ?_
      refine AWP.ret ?_
      refine Next.rt ?_
      refine Block.rt ?_
      refine Next.rt ?_
      -- ret 0
      refine Ret.go (.cons (.cellI _ _ _ _ rfl Tryz.isAgg24 Tryz.sizeOf24 rfl) .nil) _ (Heap.le.refl _) ?_
      first | exact ⟨rfl, rfl⟩ | exact ⟨rfl, (Heap.set_self hb).symm⟩ | (refine ⟨?_, rfl⟩; first | (rw [if_pos (by assumption)]; rfl) | (rw [if_neg (by simp_all)]; rfl)) | (refine ⟨?_, (Heap.set_self hb).symm⟩; first | (rw [if_pos (by assumption)]; rfl) | (rw [if_pos (by simp_all)]; rfl) | (rw [if_neg (by assumption)]; rfl) | (rw [if_neg (by simp_all)]; rfl))
    · have hh43 := hg43; try simp only [decide_eq_false_iff_not] at hh43
      refine AList.gp rfl rfl rfl (by first | rfl | assumption) (pure_move (.tmp _ _ rfl)) ?_
      refine AList.gp rfl rfl rfl (by first | rfl | assumption) (pure_eqlStr (.tmp _ _ rfl) (ev_str rfl)) ?_
      refine AList.gp rfl rfl rfl (by first | rfl | assumption) (pure_pickF (.tmp _ _ rfl) (by first | rfl | assumption) (.tmp _ _ rfl)) ?_
      refine AList.p rfl (pure_pickT (.tmp _ _ rfl) (by first | rfl | assumption) (.tmp _ _ rfl)) ?_
      refine AList.nil ?_
      refine Next.go ?_
      -- c6
      refine AWP.cond (.tmp _ _ rfl) (fun hc47 => ?_) (fun hc47 => ?_)
      · try simp only [decide_eq_true_eq] at hc47
        refine AWP.seq ?_
        -- region 14
        refine AWP.region ?_
        refine AList.p rfl (pure_move (.tmp _ _ rfl)) ?_
        refine AList.s rfl (step_call0 Tryz.call80 (.cons (.tmp _ _ rfl) (.cons ev_int .nil)) (scalar_calls b _ l tl _ 1 (by omega) (by omega) _ (by first | assumption | exact hI | exact (Heap.objs_set_ne _ _ (by assumption)).trans hb | exact Heap.objs_set_same _ _ _ | exact (Heap.objs_set_ne _ _ (by assumption)).trans (Heap.objs_set_same _ _ _)))) ?_
        rintro _ _ ⟨rfl, hH⟩
        obtain rfl := hH.symm
        refine AList.s0 (step_store Tryz.sizeOf24 (.tmp _ _ rfl) (.tmp _ _ rfl) rfl rfl (.inr ⟨_, rfl⟩) (by first | exact (Heap.objs_set_ne _ _ (by assumption)).trans hb | assumption | exact (by assumption : Heap.le _ _).objs _ _ (by assumption) | exact Heap.objs_set_same _ _ _ | exact (Heap.objs_set_ne _ _ (by assumption)).trans (Heap.objs_set_same _ _ _) | exact (Heap.objs_set_ne _ _ (by assumption)).trans ((Heap.objs_set_ne _ _ (by assumption)).trans (Heap.objs_set_same _ _ _)) | exact (Heap.objs_set_ne _ _ (by assumption)).trans (by assumption)) (Nat.le_of_ble_eq_true rfl)) ?_
        rintro _ _ ⟨rfl, hH⟩
        obtain rfl := hH.symm
        try first | rw [Heap.set_set] | rw [Heap.set_under (by assumption)]
        refine AList.nil ?_
        refine Next.go ?_
        refine AWP.frz (t := 4) rfl (by first | exact hb4 | exact Heap.fresh_set hb4 _) ?_
        refine AWP.ret ?_
        refine Next.rt ?_
        refine Block.rt ?_
        refine Next.rt ?_
        -- ret 1
        refine Ret.go (.cons (.cellI _ _ _ _ rfl Tryz.isAgg24 Tryz.sizeOf24 rfl) .nil) _ (Heap.le.refl _) ?_
        first | exact ⟨rfl, rfl⟩ | exact ⟨rfl, (Heap.set_self hb).symm⟩ | (refine ⟨?_, rfl⟩; first | (rw [if_pos (by assumption)]; rfl) | (rw [if_neg (by simp_all)]; rfl)) | (refine ⟨?_, (Heap.set_self hb).symm⟩; first | (rw [if_pos (by assumption)]; rfl) | (rw [if_pos (by simp_all)]; rfl) | (rw [if_neg (by assumption)]; rfl) | (rw [if_neg (by simp_all)]; rfl))
      · try simp only [decide_eq_false_iff_not] at hc47
        refine AWP.skip ?_
        refine Next.go ?_
        refine AWP.seq ?_
        -- region 15
        refine AWP.region ?_
        first | (refine AList.p rfl (pure_loadN Tryz.isAgg24 Tryz.sizeOf24 (.tmp _ _ rfl) (Nat.le_of_ble_eq_true rfl)) ?_) | (refine AList.s rfl (step_loadN Tryz.isAgg24 Tryz.sizeOf24 (.tmp _ _ rfl) (by first | exact (Heap.objs_set_ne _ _ (by assumption)).trans hb | assumption | exact (by assumption : Heap.le _ _).objs _ _ (by assumption) | exact Heap.objs_set_same _ _ _ | exact (Heap.objs_set_ne _ _ (by assumption)).trans (Heap.objs_set_same _ _ _) | exact (Heap.objs_set_ne _ _ (by assumption)).trans ((Heap.objs_set_ne _ _ (by assumption)).trans (Heap.objs_set_same _ _ _)) | exact (Heap.objs_set_ne _ _ (by assumption)).trans (by assumption)) (Nat.le_of_ble_eq_true rfl)) ?_; rintro _ _ ⟨rfl, hH⟩; obtain rfl := hH.symm)
        refine AList.s0 (step_store Tryz.sizeOf24 (.tmp _ _ rfl) (.tmp _ _ rfl) rfl rfl (.inr ⟨_, rfl⟩) (by first | exact (Heap.objs_set_ne _ _ (by assumption)).trans hb | assumption | exact (by assumption : Heap.le _ _).objs _ _ (by assumption) | exact Heap.objs_set_same _ _ _ | exact (Heap.objs_set_ne _ _ (by assumption)).trans (Heap.objs_set_same _ _ _) | exact (Heap.objs_set_ne _ _ (by assumption)).trans ((Heap.objs_set_ne _ _ (by assumption)).trans (Heap.objs_set_same _ _ _)) | exact (Heap.objs_set_ne _ _ (by assumption)).trans (by assumption)) (Nat.le_of_ble_eq_true rfl)) ?_
        rintro _ _ ⟨rfl, hH⟩
        obtain rfl := hH.symm
        try first | rw [Heap.set_set] | rw [Heap.set_under (by assumption)]
        refine AList.nil ?_
        refine Next.go ?_
        refine AWP.frz (t := 4) rfl (by first | exact hb4 | exact Heap.fresh_set hb4 _) ?_
        refine AWP.ret ?_
        refine Block.rt ?_
        refine Next.rt ?_
        -- ret 2
        refine Ret.go (.cons (.cellI _ _ _ _ rfl Tryz.isAgg24 Tryz.sizeOf24 rfl) .nil) _ (Heap.le.refl _) ?_
        first | exact ⟨rfl, rfl⟩ | exact ⟨rfl, (Heap.set_self hb).symm⟩ | (refine ⟨?_, rfl⟩; first | (rw [if_pos (by assumption)]; rfl) | (rw [if_neg (by simp_all)]; rfl)) | (refine ⟨?_, (Heap.set_self hb).symm⟩; first | (rw [if_pos (by assumption)]; rfl) | (rw [if_pos (by simp_all)]; rfl) | (rw [if_neg (by assumption)]; rfl) | (rw [if_neg (by simp_all)]; rfl))
  · have hh39 := hg39; try simp only [decide_eq_false_iff_not] at hh39
    refine AList.gn rfl rfl rfl (by first | rfl | assumption) ?_
    refine AList.gn rfl rfl rfl (by first | rfl | assumption) ?_
    refine AList.gn rfl rfl rfl (by first | rfl | assumption) ?_
    refine AList.gn rfl rfl rfl (by first | rfl | assumption) ?_
    refine AList.gdead rfl rfl rfl ?_
    refine AList.gdead rfl rfl rfl ?_
    refine AList.gn rfl rfl rfl (by first | rfl | assumption) ?_
    refine AList.p rfl (pure_pickF (.tmp _ _ rfl) (by first | rfl | assumption) ev_bool) ?_
    refine AList.nil ?_
    refine Next.go ?_
    -- c6
    refine AWP.cond_false (.tmp _ _ rfl) (by first | rfl | assumption) ?_
    refine AWP.skip ?_
    refine Next.go ?_
    refine AWP.seq ?_
    -- region 15
    refine AWP.region ?_
    first | (refine AList.p rfl (pure_loadN Tryz.isAgg24 Tryz.sizeOf24 (.tmp _ _ rfl) (Nat.le_of_ble_eq_true rfl)) ?_) | (refine AList.s rfl (step_loadN Tryz.isAgg24 Tryz.sizeOf24 (.tmp _ _ rfl) (by first | exact (Heap.objs_set_ne _ _ (by assumption)).trans hb | assumption | exact (by assumption : Heap.le _ _).objs _ _ (by assumption) | exact Heap.objs_set_same _ _ _ | exact (Heap.objs_set_ne _ _ (by assumption)).trans (Heap.objs_set_same _ _ _) | exact (Heap.objs_set_ne _ _ (by assumption)).trans ((Heap.objs_set_ne _ _ (by assumption)).trans (Heap.objs_set_same _ _ _)) | exact (Heap.objs_set_ne _ _ (by assumption)).trans (by assumption)) (Nat.le_of_ble_eq_true rfl)) ?_; rintro _ _ ⟨rfl, hH⟩; obtain rfl := hH.symm)
    refine AList.s0 (step_store Tryz.sizeOf24 (.tmp _ _ rfl) (.tmp _ _ rfl) rfl rfl (.inr ⟨_, rfl⟩) (by first | exact (Heap.objs_set_ne _ _ (by assumption)).trans hb | assumption | exact (by assumption : Heap.le _ _).objs _ _ (by assumption) | exact Heap.objs_set_same _ _ _ | exact (Heap.objs_set_ne _ _ (by assumption)).trans (Heap.objs_set_same _ _ _) | exact (Heap.objs_set_ne _ _ (by assumption)).trans ((Heap.objs_set_ne _ _ (by assumption)).trans (Heap.objs_set_same _ _ _)) | exact (Heap.objs_set_ne _ _ (by assumption)).trans (by assumption)) (Nat.le_of_ble_eq_true rfl)) ?_
    rintro _ _ ⟨rfl, hH⟩
    obtain rfl := hH.symm
    try first | rw [Heap.set_set] | rw [Heap.set_under (by assumption)]
    refine AList.nil ?_
    refine Next.go ?_
    refine AWP.frz (t := 4) rfl (by first | exact hb4 | exact Heap.fresh_set hb4 _) ?_
    refine AWP.ret ?_
    refine Block.rt ?_
    refine Next.rt ?_
    -- ret 3
    refine Ret.go (.cons (.cellI _ _ _ _ rfl Tryz.isAgg24 Tryz.sizeOf24 rfl) .nil) _ (Heap.le.refl _) ?_
    first | exact ⟨rfl, rfl⟩ | exact ⟨rfl, (Heap.set_self hb).symm⟩ | (refine ⟨?_, rfl⟩; first | (rw [if_pos (by assumption)]; rfl) | (rw [if_neg (by simp_all)]; rfl)) | (refine ⟨?_, (Heap.set_self hb).symm⟩; first | (rw [if_pos (by assumption)]; rfl) | (rw [if_pos (by simp_all)]; rfl) | (rw [if_neg (by assumption)]; rfl) | (rw [if_neg (by simp_all)]; rfl))

set_option maxRecDepth 100000 in
theorem otherISERROR_calls (b : Nat) (q : FLoc) (po pr : AV) (l : List ArgN) (tl : Tail) (f : Int) (hn : l.length = 1)  (H : Heap) (hb : H.objs b = some (callB (callerA q po pr) l tl f)) : ACall Tryz.prog 54 [.ptr (some ⟨b, 0, none⟩), .str [73, 83, 69, 82, 82, 79, 82]] H (fun y H' => y = (BoolV (decide ((scalarV l[0]).kind = 4))).av ∧ H' = H.set b (callB (callerA q po pr) l tl (f))) := by
  refine ACall.of_body Tryz.func54 rfl Tryz.ntmps54 Tryz.results54 rfl ?_
  refine AWP.seq ?_
  -- region 0
  refine AWP.region ?_
  refine AList.s rfl (step_alloc Tryz.zeroValue24 (zr24)) ?_
  rintro _ _ ⟨b4, hb4, rfl, hH⟩
  obtain rfl := hH.symm
  refine AList.nil ?_
  refine Next.go ?_
  refine AWP.seq ?_
  refine AWP.seq ?_
  have hne4 : b ≠ b4 := by rintro rfl; rw [hb] at hb4; cases hb4
  have hne4x := hne4.symm
  -- region 1
  refine AWP.region ?_
  refine AList.p rfl (pure_move (.tmp _ _ rfl)) ?_
  refine AList.nil ?_
  refine Next.go ?_
  refine AWP.block ?_
  refine AWP.seq ?_
  -- region 2
  refine AWP.region ?_
  refine AList.p rfl (pure_eqlStr (.tmp _ _ rfl) (ev_str rfl)) ?_
  refine AList.p rfl (pure_assign (.tmp _ _ rfl)) ?_
  refine AList.nil ?_
  refine Next.go ?_
  -- c0
  refine AWP.cond_false (.tmp _ _ rfl) (by rfl) ?_
  refine AWP.seq ?_
  -- region 4
  refine AWP.region ?_
  refine AList.p rfl (pure_eqlStr (.tmp _ _ rfl) (ev_str rfl)) ?_
  refine AList.p rfl (pure_assign (.tmp _ _ rfl)) ?_
  refine AList.nil ?_
  refine Next.go ?_
  -- c1
  refine AWP.cond_false (.tmp _ _ rfl) (by rfl) ?_
  refine AWP.seq ?_
  refine AWP.seq ?_
  -- region 10
  refine AWP.region ?_
  refine AList.p rfl (pure_eqlStr (.tmp _ _ rfl) (ev_str rfl)) ?_
  refine AList.p rfl (pure_assign (.tmp _ _ rfl)) ?_
  refine AList.nil ?_
  refine Next.go ?_
  -- c4
  refine AWP.cond_false (.tmp _ _ rfl) (by rfl) ?_
  -- region 11
  refine AWP.region ?_
  refine AList.p rfl (pure_eqlStr (.tmp _ _ rfl) (ev_str rfl)) ?_
  refine AList.p rfl (pure_assign (.tmp _ _ rfl)) ?_
  refine AList.nil ?_
  refine Next.go ?_
  -- c5
  refine AWP.cond_false (.tmp _ _ rfl) (by rfl) ?_
  refine AWP.seq ?_
  -- region 16
  refine AWP.region ?_
  refine AList.p rfl (pure_eqlStr (.tmp _ _ rfl) (ev_str rfl)) ?_
  refine AList.p rfl (pure_assign (.tmp _ _ rfl)) ?_
  refine AList.nil ?_
  refine Next.go ?_
  -- c7
  refine AWP.cond_false (.tmp _ _ rfl) (by rfl) ?_
  refine AWP.seq ?_
  -- region 21
  refine AWP.region ?_
  refine AList.p rfl (pure_eqlStr (.tmp _ _ rfl) (ev_str rfl)) ?_
  refine AList.p rfl (pure_assign (.tmp _ _ rfl)) ?_
  refine AList.nil ?_
  refine Next.go ?_
  -- c9
  refine AWP.cond_false (.tmp _ _ rfl) (by rfl) ?_
  refine AWP.seq ?_
  -- region 23
  refine AWP.region ?_
  refine AList.p rfl (pure_eqlStr (.tmp _ _ rfl) (ev_str rfl)) ?_
  refine AList.p rfl (pure_assign (.tmp _ _ rfl)) ?_
  refine AList.nil ?_
  refine Next.go ?_
  -- c10
  refine AWP.cond_false (.tmp _ _ rfl) (by rfl) ?_
  refine AWP.seq ?_
  -- region 25
  refine AWP.region ?_
  refine AList.p rfl (pure_eqlStr (.tmp _ _ rfl) (ev_str rfl)) ?_
  refine AList.p rfl (pure_assign (.tmp _ _ rfl)) ?_
  refine AList.nil ?_
  refine Next.go ?_
  -- c11
  refine AWP.cond_false (.tmp _ _ rfl) (by rfl) ?_
  refine AWP.seq ?_
  -- region 27
  refine AWP.region ?_
  refine AList.p rfl (pure_eqlStr (.tmp _ _ rfl) (ev_str rfl)) ?_
  refine AList.p rfl (pure_assign (.tmp _ _ rfl)) ?_
  refine AList.nil ?_
  refine Next.go ?_
  -- c12
  refine AWP.cond_false (.tmp _ _ rfl) (by rfl) ?_
  refine AWP.seq ?_
  refine AWP.seq ?_
  -- region 29
  refine AWP.region ?_
  refine AList.p rfl (pure_eqlStr (.tmp _ _ rfl) (ev_str rfl)) ?_
  refine AList.p rfl (pure_assign (.tmp _ _ rfl)) ?_
  refine AList.nil ?_
  refine Next.go ?_
  -- c13
  refine AWP.cond_false (.tmp _ _ rfl) (by rfl) ?_
  -- region 30
  refine AWP.region ?_
  refine AList.p rfl (pure_eqlStr (.tmp _ _ rfl) (ev_str rfl)) ?_
  refine AList.p rfl (pure_assign (.tmp _ _ rfl)) ?_
  refine AList.nil ?_
  refine Next.go ?_
  -- c14
  refine AWP.cond_false (.tmp _ _ rfl) (by rfl) ?_
  refine AWP.skip ?_
  refine Block.go ?_
  refine Next.go ?_
  refine AWP.seq ?_
  refine AWP.seq ?_
  -- region 32
  refine AWP.region ?_
  refine AList.p rfl (pure_move (.tmp _ _ rfl)) ?_
  first | (refine AList.p rfl (pure_nilCheckI (.tmp _ _ rfl)) ?_) | (refine AList.p rfl (pure_nilCheck (.tmp _ _ rfl)) ?_) | (refine AList.p rfl (pure_nilCheckF (.tmp _ _ rfl)) ?_)
  first | (refine AList.p rfl (pure_fieldI Tryz.underlying79 rfl Tryz.sizeOf40 (.tmp _ _ rfl)) ?_) | (refine AList.p rfl (pure_field Tryz.underlying79 rfl Tryz.sizeOf40 (.tmp _ _ rfl)) ?_)
  first | (refine AList.p rfl (pure_load1 Tryz.isAgg40 (.tmp _ _ rfl)) ?_) | (refine AList.s rfl (step_load1 Tryz.isAgg40 (.tmp _ _ rfl) (by first | exact (Heap.objs_set_ne _ _ (by assumption)).trans hb | assumption | exact (by assumption : Heap.le _ _).objs _ _ (by assumption) | exact Heap.objs_set_same _ _ _ | exact (Heap.objs_set_ne _ _ (by assumption)).trans (Heap.objs_set_same _ _ _) | exact (Heap.objs_set_ne _ _ (by assumption)).trans ((Heap.objs_set_ne _ _ (by assumption)).trans (Heap.objs_set_same _ _ _)) | exact (Heap.objs_set_ne _ _ (by assumption)).trans (by assumption)) rfl) ?_; rintro _ _ ⟨rfl, hH⟩; obtain rfl := hH.symm)
  first | (refine AList.p rfl (pure_lenL Tryz.underlying40 (.tmp _ _ rfl)) ?_) | (refine AList.p rfl (pure_lenS Tryz.underlying40 (.tmp _ _ rfl)) ?_) | (refine AList.p rfl (pure_lenM Tryz.underlying40 (.tmp _ _ rfl)) ?_)
  refine AList.p rfl (pure_gtr (.tmp _ _ rfl) ev_int) ?_
  refine AList.nil ?_
  refine Next.go ?_
  -- c15
  refine AWP.cond (.tmp _ _ rfl) (fun hc110 => ?_) (fun hc110 => ?_)
  · try simp only [decide_eq_true_eq] at hc110
    refine AWP.seq ?_
    -- region 33
    refine AWP.region ?_
    refine AList.p rfl (pure_move (.tmp _ _ rfl)) ?_
    refine AList.p rfl (pure_move (.tmp _ _ rfl)) ?_
    refine AList.s rfl (step_call0 Tryz.call80 (.cons (.tmp _ _ rfl) (.cons ev_int .nil)) (scalar_calls b _ l tl _ 0 (by omega) (by omega) _ (by first | assumption | exact hI | exact (Heap.objs_set_ne _ _ (by assumption)).trans hb | exact Heap.objs_set_same _ _ _ | exact (Heap.objs_set_ne _ _ (by assumption)).trans (Heap.objs_set_same _ _ _)))) ?_
    rintro _ _ ⟨rfl, hH⟩
    obtain rfl := hH.symm
    refine AList.s rfl (step_call0 Tryz.call92 (.cons (.tmp _ _ rfl) (.cons (.tmp _ _ rfl) .nil)) (asksISERROR_calls _ _)) ?_
    rintro _ _ ⟨rfl, hH⟩
    obtain rfl := hH.symm
    refine AList.p rfl (pure_move (.tmp _ _ rfl)) ?_
    refine AList.p rfl (pure_extract (.tmp _ _ rfl) rfl) ?_
    refine AList.p rfl (pure_extract (.tmp _ _ rfl) rfl) ?_
    refine AList.p rfl (pure_assign (.tmp _ _ rfl)) ?_
    refine AList.p rfl (pure_assign (.tmp _ _ rfl)) ?_
    refine AList.nil ?_
    refine Next.go ?_
    refine AWP.seq ?_
    -- region 34
    refine AWP.region ?_
    refine AList.p rfl (pure_move (.tmp _ _ rfl)) ?_
    refine AList.nil ?_
    refine Next.go ?_
    -- c16
    refine AWP.cond_true (.tmp _ _ rfl) (by rfl) ?_
    refine AWP.seq ?_
    -- region 35
    refine AWP.region ?_
    refine AList.p rfl (pure_move (.tmp _ _ rfl)) ?_
    refine AList.s rfl (step_call0 Tryz.call22 (.cons (.tmp _ _ rfl) .nil) (vBool_calls _ _)) ?_
    rintro _ _ ⟨rfl, hH⟩
    obtain rfl := hH.symm
    refine AList.s0 (step_store Tryz.sizeOf24 (.tmp _ _ rfl) (.tmp _ _ rfl) rfl rfl (.inr ⟨_, rfl⟩) (by first | exact (Heap.objs_set_ne _ _ (by assumption)).trans hb | assumption | exact (by assumption : Heap.le _ _).objs _ _ (by assumption) | exact Heap.objs_set_same _ _ _ | exact (Heap.objs_set_ne _ _ (by assumption)).trans (Heap.objs_set_same _ _ _) | exact (Heap.objs_set_ne _ _ (by assumption)).trans ((Heap.objs_set_ne _ _ (by assumption)).trans (Heap.objs_set_same _ _ _)) | exact (Heap.objs_set_ne _ _ (by assumption)).trans (by assumption)) (Nat.le_of_ble_eq_true rfl)) ?_
    rintro _ _ ⟨rfl, hH⟩
    obtain rfl := hH.symm
    try first | rw [Heap.set_set] | rw [Heap.set_under (by assumption)]
    refine AList.nil ?_
    refine Next.go ?_
    refine AWP.frz (t := 4) rfl (by first | exact hb4 | exact Heap.fresh_set hb4 _) ?_
    refine AWP.ret ?_
    refine Next.rt ?_
    -- ret 0
    refine Ret.go (.cons (.cellI _ _ _ _ rfl Tryz.isAgg24 Tryz.sizeOf24 rfl) .nil) _ (Heap.le.refl _) ?_
    first | exact ⟨rfl, rfl⟩ | exact ⟨rfl, (Heap.set_self hb).symm⟩ | (refine ⟨?_, rfl⟩; first | (rw [if_pos (by assumption)]; rfl) | (rw [if_neg (by simp_all)]; rfl)) | (refine ⟨?_, (Heap.set_self hb).symm⟩; first | (rw [if_pos (by assumption)]; rfl) | (rw [if_pos (by simp_all)]; rfl) | (rw [if_neg (by assumption)]; rfl) | (rw [if_neg (by simp_all)]; rfl))
  · try simp only [decide_eq_false_iff_not, Int.not_lt] at hc110
    omega

end Go.Proofs.YtifoddpbmlajfaaGreatDoor
