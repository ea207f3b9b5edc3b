/-
  The program's graph: the small functions.
-/
import Derived.Test.YtdibiongjkmlpaaGe
namespace Go.Proofs.Ytdibiongjkmlpaa
open Go Go.RowKit
theorem Area.ok_right (x : Area) : x.ok = (x.a.ok && x.b.ok && decide (x.a.col ≤ x.b.col) && decide (x.a.row ≤ x.b.row) && decide (x = ⟨x.a.plain, x.b.plain⟩)) := by
  obtain ⟨⟨a, b, c, d⟩, ⟨a', b', c', d'⟩⟩ := x
  rw [Area.ok]
  cases c <;> cases d <;> cases c' <;> cases d' <;> simp [Ref.plain]

set_option maxRecDepth 100000 in
theorem right_calls (x : Area) (H : Heap) : ACall Try.prog 53 [x.av] H (fun y H' => y = .bool x.ok ∧ H' = H) := by
  refine ACall.of_body Try.func53 rfl Try.ntmps53 Try.results53 rfl ?_
  refine AWP.seq ?_
  -- region 0
  refine AWP.region ?_
  refine AList.s rfl (step_boxI (.tmp _ _ rfl) (.inr ⟨_, rfl⟩)) ?_
  rintro _ _ ⟨rfl, hH⟩
  obtain rfl := hH.symm
  refine AList.p rfl (pure_assign ev_bool) ?_
  refine AList.nil ?_
  refine Next.go ?_
  refine AWP.seq ?_
  -- region 1
  refine AWP.draw [(0, true), (1, true), (2, true), (3, true), (4, true), (5, true), (6, true), (7, true), (8, true), (9, true), (10, true), (11, true), (12, true), (13, true), (14, true), (15, true), (16, true), (17, true), (18, true), (19, true), (20, true), (21, true), (22, true), (23, true), (24, true), (25, true), (26, true), (27, true), (28, true), (29, true), (30, true), (31, true), (32, true), (33, true), (34, true), (35, true), (36, true), (37, true)] rfl (by decide +kernel) ?_
  first | (refine APlan.p rfl rfl (pure_fieldI Try.underlying52 rfl Try.sizeOf50 (.tmp _ _ rfl)) ?_) | (refine APlan.p rfl rfl (pure_field Try.underlying52 rfl Try.sizeOf50 (.tmp _ _ rfl)) ?_)
  first | (refine APlan.p rfl rfl (pure_loadN Try.isAgg50 Try.sizeOf50 (.tmp _ _ rfl) (Nat.le_of_ble_eq_true rfl)) ?_) | (refine APlan.f rfl rfl (fun _ => step_loadN Try.isAgg50 Try.sizeOf50 (.tmp _ _ rfl) (by first | assumption | exact (by assumption : Heap.le _ _).objs _ _ (by assumption) | exact Heap.objs_set_same _ _ _ | exact (Heap.objs_set_ne _ _ (by assumption)).trans (Heap.objs_set_same _ _ _) | exact (Heap.objs_set_ne _ _ (by assumption)).trans ((Heap.objs_set_ne _ _ (by assumption)).trans (Heap.objs_set_same _ _ _)) | exact (Heap.objs_set_ne _ _ (by assumption)).trans (by assumption)) (Nat.le_of_ble_eq_true rfl)) ?_)
  refine APlan.f rfl rfl (fun _ => step_call0 Try.call49 (.cons (.tmp _ _ rfl) .nil) (Right_calls ⟨_, _, _, _⟩ _)) ?_
  refine APlan.p rfl rfl (pure_move (.tmp _ _ rfl)) ?_
  -- the guard in slot 6
  refine bool_casesP (t := 6) rfl (fun hg6 => ?_) (fun hg6 => ?_)
  · have hh6 := hg6; try simp only [decide_eq_true_eq, decide_eq_false_iff_not, Bool.not_eq_true', Bool.not_eq_false', Int.not_lt, Int.not_le, ne_eq, Decidable.not_not] at hh6
    first | (refine APlan.gp rfl rfl rfl rfl (by first | rfl | assumption) (pure_fieldI Try.underlying52 rfl Try.sizeOf50 (.tmp _ _ rfl)) ?_) | (refine APlan.gp rfl rfl rfl rfl (by first | rfl | assumption) (pure_field Try.underlying52 rfl Try.sizeOf50 (.tmp _ _ rfl)) ?_)
    first | (refine APlan.gp rfl rfl rfl rfl (by first | rfl | assumption) (pure_loadN Try.isAgg50 Try.sizeOf50 (.tmp _ _ rfl) (Nat.le_of_ble_eq_true rfl)) ?_) | (refine APlan.gf rfl rfl rfl rfl (by first | rfl | assumption) (fun _ => step_loadN Try.isAgg50 Try.sizeOf50 (.tmp _ _ rfl) (by first | assumption | exact (by assumption : Heap.le _ _).objs _ _ (by assumption) | exact Heap.objs_set_same _ _ _ | exact (Heap.objs_set_ne _ _ (by assumption)).trans (Heap.objs_set_same _ _ _) | exact (Heap.objs_set_ne _ _ (by assumption)).trans ((Heap.objs_set_ne _ _ (by assumption)).trans (Heap.objs_set_same _ _ _)) | exact (Heap.objs_set_ne _ _ (by assumption)).trans (by assumption)) (Nat.le_of_ble_eq_true rfl)) ?_)
    refine APlan.gf rfl rfl rfl rfl (by first | rfl | assumption) (fun _ => step_call0 Try.call49 (.cons (.tmp _ _ rfl) .nil) (Right_calls ⟨_, _, _, _⟩ _)) ?_
    refine APlan.p rfl rfl (pure_pickT (.tmp _ _ rfl) (by first | rfl | assumption) (.tmp _ _ rfl)) ?_
    refine APlan.p rfl rfl (pure_move (.tmp _ _ rfl)) ?_
    -- the guard in slot 11
    refine bool_casesP (t := 11) rfl (fun hg11 => ?_) (fun hg11 => ?_)
    · have hh11 := hg11; try simp only [decide_eq_true_eq, decide_eq_false_iff_not, Bool.not_eq_true', Bool.not_eq_false', Int.not_lt, Int.not_le, ne_eq, Decidable.not_not] at hh11
      first | (refine APlan.gp rfl rfl rfl rfl (by first | rfl | assumption) (pure_fieldI Try.underlying52 rfl Try.sizeOf50 (.tmp _ _ rfl)) ?_) | (refine APlan.gp rfl rfl rfl rfl (by first | rfl | assumption) (pure_field Try.underlying52 rfl Try.sizeOf50 (.tmp _ _ rfl)) ?_)
      first | (refine APlan.gp rfl rfl rfl rfl (by first | rfl | assumption) (pure_fieldI Try.underlying50 rfl Try.sizeOf3 (.tmp _ _ rfl)) ?_) | (refine APlan.gp rfl rfl rfl rfl (by first | rfl | assumption) (pure_field Try.underlying50 rfl Try.sizeOf3 (.tmp _ _ rfl)) ?_)
      first | (refine APlan.gp rfl rfl rfl rfl (by first | rfl | assumption) (pure_load1 Try.isAgg3 (.tmp _ _ rfl)) ?_) | (refine APlan.gf rfl rfl rfl rfl (by first | rfl | assumption) (fun _ => step_load1 Try.isAgg3 (.tmp _ _ rfl) (by first | assumption | exact (by assumption : Heap.le _ _).objs _ _ (by assumption) | exact Heap.objs_set_same _ _ _ | exact (Heap.objs_set_ne _ _ (by assumption)).trans (Heap.objs_set_same _ _ _) | exact (Heap.objs_set_ne _ _ (by assumption)).trans ((Heap.objs_set_ne _ _ (by assumption)).trans (Heap.objs_set_same _ _ _)) | exact (Heap.objs_set_ne _ _ (by assumption)).trans (by assumption)) rfl) ?_)
      first | (refine APlan.gp rfl rfl rfl rfl (by first | rfl | assumption) (pure_fieldI Try.underlying52 rfl Try.sizeOf50 (.tmp _ _ rfl)) ?_) | (refine APlan.gp rfl rfl rfl rfl (by first | rfl | assumption) (pure_field Try.underlying52 rfl Try.sizeOf50 (.tmp _ _ rfl)) ?_)
      first | (refine APlan.gp rfl rfl rfl rfl (by first | rfl | assumption) (pure_fieldI Try.underlying50 rfl Try.sizeOf3 (.tmp _ _ rfl)) ?_) | (refine APlan.gp rfl rfl rfl rfl (by first | rfl | assumption) (pure_field Try.underlying50 rfl Try.sizeOf3 (.tmp _ _ rfl)) ?_)
      first | (refine APlan.gp rfl rfl rfl rfl (by first | rfl | assumption) (pure_load1 Try.isAgg3 (.tmp _ _ rfl)) ?_) | (refine APlan.gf rfl rfl rfl rfl (by first | rfl | assumption) (fun _ => step_load1 Try.isAgg3 (.tmp _ _ rfl) (by first | assumption | exact (by assumption : Heap.le _ _).objs _ _ (by assumption) | exact Heap.objs_set_same _ _ _ | exact (Heap.objs_set_ne _ _ (by assumption)).trans (Heap.objs_set_same _ _ _) | exact (Heap.objs_set_ne _ _ (by assumption)).trans ((Heap.objs_set_ne _ _ (by assumption)).trans (Heap.objs_set_same _ _ _)) | exact (Heap.objs_set_ne _ _ (by assumption)).trans (by assumption)) rfl) ?_)
      refine APlan.gp rfl rfl rfl rfl (by first | rfl | assumption) (pure_leq (.tmp _ _ rfl) (.tmp _ _ rfl)) ?_
      refine APlan.p rfl rfl (pure_pickT (.tmp _ _ rfl) (by first | rfl | assumption) (.tmp _ _ rfl)) ?_
      refine APlan.p rfl rfl (pure_move (.tmp _ _ rfl)) ?_
      -- the guard in slot 20
      refine bool_casesP (t := 20) rfl (fun hg20 => ?_) (fun hg20 => ?_)
      · have hh20 := hg20; try simp only [decide_eq_true_eq] at hh20
        first | (refine APlan.gp rfl rfl rfl rfl (by first | rfl | assumption) (pure_fieldI Try.underlying52 rfl Try.sizeOf50 (.tmp _ _ rfl)) ?_) | (refine APlan.gp rfl rfl rfl rfl (by first | rfl | assumption) (pure_field Try.underlying52 rfl Try.sizeOf50 (.tmp _ _ rfl)) ?_)
        first | (refine APlan.gp rfl rfl rfl rfl (by first | rfl | assumption) (pure_fieldI Try.underlying50 rfl Try.sizeOf3 (.tmp _ _ rfl)) ?_) | (refine APlan.gp rfl rfl rfl rfl (by first | rfl | assumption) (pure_field Try.underlying50 rfl Try.sizeOf3 (.tmp _ _ rfl)) ?_)
        first | (refine APlan.gp rfl rfl rfl rfl (by first | rfl | assumption) (pure_load1 Try.isAgg3 (.tmp _ _ rfl)) ?_) | (refine APlan.gf rfl rfl rfl rfl (by first | rfl | assumption) (fun _ => step_load1 Try.isAgg3 (.tmp _ _ rfl) (by first | assumption | exact (by assumption : Heap.le _ _).objs _ _ (by assumption) | exact Heap.objs_set_same _ _ _ | exact (Heap.objs_set_ne _ _ (by assumption)).trans (Heap.objs_set_same _ _ _) | exact (Heap.objs_set_ne _ _ (by assumption)).trans ((Heap.objs_set_ne _ _ (by assumption)).trans (Heap.objs_set_same _ _ _)) | exact (Heap.objs_set_ne _ _ (by assumption)).trans (by assumption)) rfl) ?_)
        first | (refine APlan.gp rfl rfl rfl rfl (by first | rfl | assumption) (pure_fieldI Try.underlying52 rfl Try.sizeOf50 (.tmp _ _ rfl)) ?_) | (refine APlan.gp rfl rfl rfl rfl (by first | rfl | assumption) (pure_field Try.underlying52 rfl Try.sizeOf50 (.tmp _ _ rfl)) ?_)
        first | (refine APlan.gp rfl rfl rfl rfl (by first | rfl | assumption) (pure_fieldI Try.underlying50 rfl Try.sizeOf3 (.tmp _ _ rfl)) ?_) | (refine APlan.gp rfl rfl rfl rfl (by first | rfl | assumption) (pure_field Try.underlying50 rfl Try.sizeOf3 (.tmp _ _ rfl)) ?_)
        first | (refine APlan.gp rfl rfl rfl rfl (by first | rfl | assumption) (pure_load1 Try.isAgg3 (.tmp _ _ rfl)) ?_) | (refine APlan.gf rfl rfl rfl rfl (by first | rfl | assumption) (fun _ => step_load1 Try.isAgg3 (.tmp _ _ rfl) (by first | assumption | exact (by assumption : Heap.le _ _).objs _ _ (by assumption) | exact Heap.objs_set_same _ _ _ | exact (Heap.objs_set_ne _ _ (by assumption)).trans (Heap.objs_set_same _ _ _) | exact (Heap.objs_set_ne _ _ (by assumption)).trans ((Heap.objs_set_ne _ _ (by assumption)).trans (Heap.objs_set_same _ _ _)) | exact (Heap.objs_set_ne _ _ (by assumption)).trans (by assumption)) rfl) ?_)
        refine APlan.gp rfl rfl rfl rfl (by first | rfl | assumption) (pure_leq (.tmp _ _ rfl) (.tmp _ _ rfl)) ?_
        refine APlan.p rfl rfl (pure_pickT (.tmp _ _ rfl) (by first | rfl | assumption) (.tmp _ _ rfl)) ?_
        refine APlan.p rfl rfl (pure_move (.tmp _ _ rfl)) ?_
        -- the guard in slot 29
        refine bool_casesP (t := 29) rfl (fun hg29 => ?_) (fun hg29 => ?_)
        · have hh29 := hg29; try simp only [decide_eq_true_eq] at hh29
          first | (refine APlan.gp rfl rfl rfl rfl (by first | rfl | assumption) (pure_loadN Try.isAgg52 Try.sizeOf52 (.tmp _ _ rfl) (Nat.le_of_ble_eq_true rfl)) ?_) | (refine APlan.gf rfl rfl rfl rfl (by first | rfl | assumption) (fun _ => step_loadN Try.isAgg52 Try.sizeOf52 (.tmp _ _ rfl) (by first | assumption | exact (by assumption : Heap.le _ _).objs _ _ (by assumption) | exact Heap.objs_set_same _ _ _ | exact (Heap.objs_set_ne _ _ (by assumption)).trans (Heap.objs_set_same _ _ _) | exact (Heap.objs_set_ne _ _ (by assumption)).trans ((Heap.objs_set_ne _ _ (by assumption)).trans (Heap.objs_set_same _ _ _)) | exact (Heap.objs_set_ne _ _ (by assumption)).trans (by assumption)) (Nat.le_of_ble_eq_true rfl)) ?_)
          first | (refine APlan.gp rfl rfl rfl rfl (by first | rfl | assumption) (pure_fieldI Try.underlying52 rfl Try.sizeOf50 (.tmp _ _ rfl)) ?_) | (refine APlan.gp rfl rfl rfl rfl (by first | rfl | assumption) (pure_field Try.underlying52 rfl Try.sizeOf50 (.tmp _ _ rfl)) ?_)
          first | (refine APlan.gp rfl rfl rfl rfl (by first | rfl | assumption) (pure_loadN Try.isAgg50 Try.sizeOf50 (.tmp _ _ rfl) (Nat.le_of_ble_eq_true rfl)) ?_) | (refine APlan.gf rfl rfl rfl rfl (by first | rfl | assumption) (fun _ => step_loadN Try.isAgg50 Try.sizeOf50 (.tmp _ _ rfl) (by first | assumption | exact (by assumption : Heap.le _ _).objs _ _ (by assumption) | exact Heap.objs_set_same _ _ _ | exact (Heap.objs_set_ne _ _ (by assumption)).trans (Heap.objs_set_same _ _ _) | exact (Heap.objs_set_ne _ _ (by assumption)).trans ((Heap.objs_set_ne _ _ (by assumption)).trans (Heap.objs_set_same _ _ _)) | exact (Heap.objs_set_ne _ _ (by assumption)).trans (by assumption)) (Nat.le_of_ble_eq_true rfl)) ?_)
          refine APlan.gf rfl rfl rfl rfl (by first | rfl | assumption) (fun _ => step_call0 Try.call67 (.cons (.tmp _ _ rfl) .nil) (plain_calls ⟨_, _, _, _⟩ _)) ?_
          first | (refine APlan.gp rfl rfl rfl rfl (by first | rfl | assumption) (pure_fieldI Try.underlying52 rfl Try.sizeOf50 (.tmp _ _ rfl)) ?_) | (refine APlan.gp rfl rfl rfl rfl (by first | rfl | assumption) (pure_field Try.underlying52 rfl Try.sizeOf50 (.tmp _ _ rfl)) ?_)
          first | (refine APlan.gp rfl rfl rfl rfl (by first | rfl | assumption) (pure_loadN Try.isAgg50 Try.sizeOf50 (.tmp _ _ rfl) (Nat.le_of_ble_eq_true rfl)) ?_) | (refine APlan.gf rfl rfl rfl rfl (by first | rfl | assumption) (fun _ => step_loadN Try.isAgg50 Try.sizeOf50 (.tmp _ _ rfl) (by first | assumption | exact (by assumption : Heap.le _ _).objs _ _ (by assumption) | exact Heap.objs_set_same _ _ _ | exact (Heap.objs_set_ne _ _ (by assumption)).trans (Heap.objs_set_same _ _ _) | exact (Heap.objs_set_ne _ _ (by assumption)).trans ((Heap.objs_set_ne _ _ (by assumption)).trans (Heap.objs_set_same _ _ _)) | exact (Heap.objs_set_ne _ _ (by assumption)).trans (by assumption)) (Nat.le_of_ble_eq_true rfl)) ?_)
          refine APlan.gf rfl rfl rfl rfl (by first | rfl | assumption) (fun _ => step_call0 Try.call67 (.cons (.tmp _ _ rfl) .nil) (plain_calls ⟨_, _, _, _⟩ _)) ?_
          refine APlan.gp rfl rfl rfl rfl (by first | rfl | assumption) (pure_build [(0, 4), (4, 4)] Try.underlying52 Try.zeroValue52 (zr52) rfl (pl52 _ Try.underlying52) (.cons (.tmp _ _ rfl) (.inr ⟨_, rfl⟩) (.cons (.tmp _ _ rfl) (.inr ⟨_, rfl⟩) .nil)) rfl) ?_
          refine APlan.gp rfl rfl rfl rfl (by first | rfl | assumption) (pure_eqlA Try.eqGuardType52 (.tmp _ _ rfl) (.tmp _ _ rfl) (eqArea x ⟨x.a.plain, x.b.plain⟩)) ?_
          refine APlan.p rfl rfl (pure_pickT (.tmp _ _ rfl) (by first | rfl | assumption) (.tmp _ _ rfl)) ?_
          refine APlan.p rfl rfl (pure_assign (.tmp _ _ rfl)) ?_
          refine APlan.nil ?_
          refine Next.go ?_
          refine AWP.ret ?_
          -- ret 0
          refine Ret.go (.cons (.tmp _ _ rfl) .nil) _ (Heap.le.refl _) ?_
          refine ⟨?_, rfl⟩
          rw [Area.ok_right]
          try simp only [Ref.eta] at *
          simp_all [packed]
          try (intros; omega)
        · have hh29 := hg29; try simp only [decide_eq_false_iff_not, Int.not_le] at hh29
          refine APlan.gn rfl rfl rfl rfl (by first | rfl | assumption) ?_
          refine APlan.gn rfl rfl rfl rfl (by first | rfl | assumption) ?_
          refine APlan.gn rfl rfl rfl rfl (by first | rfl | assumption) ?_
          refine APlan.gn rfl rfl rfl rfl (by first | rfl | assumption) ?_
          refine APlan.gn rfl rfl rfl rfl (by first | rfl | assumption) ?_
          refine APlan.gn rfl rfl rfl rfl (by first | rfl | assumption) ?_
          refine APlan.gn rfl rfl rfl rfl (by first | rfl | assumption) ?_
          refine APlan.gn rfl rfl rfl rfl (by first | rfl | assumption) ?_
          refine APlan.gn rfl rfl rfl rfl (by first | rfl | assumption) ?_
          refine APlan.p rfl rfl (pure_pickF (.tmp _ _ rfl) (by first | rfl | assumption) ev_bool) ?_
          refine APlan.p rfl rfl (pure_assign (.tmp _ _ rfl)) ?_
          refine APlan.nil ?_
          refine Next.go ?_
          refine AWP.ret ?_
          -- ret 1
          refine Ret.go (.cons (.tmp _ _ rfl) .nil) _ (Heap.le.refl _) ?_
          refine ⟨?_, rfl⟩
          rw [Area.ok_right]
          try simp only [Ref.eta] at *
          simp_all [packed]
          try (intros; omega)
      · have hh20 := hg20; try simp only [decide_eq_false_iff_not, Int.not_le] at hh20
        refine APlan.gn rfl rfl rfl rfl (by first | rfl | assumption) ?_
        refine APlan.gn rfl rfl rfl rfl (by first | rfl | assumption) ?_
        refine APlan.gn rfl rfl rfl rfl (by first | rfl | assumption) ?_
        refine APlan.gn rfl rfl rfl rfl (by first | rfl | assumption) ?_
        refine APlan.gn rfl rfl rfl rfl (by first | rfl | assumption) ?_
        refine APlan.gn rfl rfl rfl rfl (by first | rfl | assumption) ?_
        refine APlan.gn rfl rfl rfl rfl (by first | rfl | assumption) ?_
        refine APlan.p rfl rfl (pure_pickF (.tmp _ _ rfl) (by first | rfl | assumption) ev_bool) ?_
        refine APlan.p rfl rfl (pure_move (.tmp _ _ rfl)) ?_
        refine APlan.gn rfl rfl rfl rfl (by first | rfl | assumption) ?_
        refine APlan.gn rfl rfl rfl rfl (by first | rfl | assumption) ?_
        refine APlan.gn rfl rfl rfl rfl (by first | rfl | assumption) ?_
        refine APlan.gn rfl rfl rfl rfl (by first | rfl | assumption) ?_
        refine APlan.gn rfl rfl rfl rfl (by first | rfl | assumption) ?_
        refine APlan.gn rfl rfl rfl rfl (by first | rfl | assumption) ?_
        refine APlan.gn rfl rfl rfl rfl (by first | rfl | assumption) ?_
        refine APlan.gn rfl rfl rfl rfl (by first | rfl | assumption) ?_
        refine APlan.gn rfl rfl rfl rfl (by first | rfl | assumption) ?_
        refine APlan.p rfl rfl (pure_pickF (.tmp _ _ rfl) (by first | rfl | assumption) ev_bool) ?_
        refine APlan.p rfl rfl (pure_assign (.tmp _ _ rfl)) ?_
        refine APlan.nil ?_
        refine Next.go ?_
        refine AWP.ret ?_
        -- ret 2
        refine Ret.go (.cons (.tmp _ _ rfl) .nil) _ (Heap.le.refl _) ?_
        refine ⟨?_, rfl⟩
        rw [Area.ok_right]
        try simp only [Ref.eta] at *
        simp_all [packed]
        try (intros; omega)
    · have hh11 := hg11; try simp only [decide_eq_true_eq, decide_eq_false_iff_not, Bool.not_eq_true', Bool.not_eq_false', Int.not_lt, Int.not_le, ne_eq, Decidable.not_not] at hh11
      refine APlan.gn rfl rfl rfl rfl (by first | rfl | assumption) ?_
      refine APlan.gn rfl rfl rfl rfl (by first | rfl | assumption) ?_
      refine APlan.gn rfl rfl rfl rfl (by first | rfl | assumption) ?_
      refine APlan.gn rfl rfl rfl rfl (by first | rfl | assumption) ?_
      refine APlan.gn rfl rfl rfl rfl (by first | rfl | assumption) ?_
      refine APlan.gn rfl rfl rfl rfl (by first | rfl | assumption) ?_
      refine APlan.gn rfl rfl rfl rfl (by first | rfl | assumption) ?_
      refine APlan.p rfl rfl (pure_pickF (.tmp _ _ rfl) (by first | rfl | assumption) ev_bool) ?_
      refine APlan.p rfl rfl (pure_move (.tmp _ _ rfl)) ?_
      refine APlan.gn rfl rfl rfl rfl (by first | rfl | assumption) ?_
      refine APlan.gn rfl rfl rfl rfl (by first | rfl | assumption) ?_
      refine APlan.gn rfl rfl rfl rfl (by first | rfl | assumption) ?_
      refine APlan.gn rfl rfl rfl rfl (by first | rfl | assumption) ?_
      refine APlan.gn rfl rfl rfl rfl (by first | rfl | assumption) ?_
      refine APlan.gn rfl rfl rfl rfl (by first | rfl | assumption) ?_
      refine APlan.gn rfl rfl rfl rfl (by first | rfl | assumption) ?_
      refine APlan.p rfl rfl (pure_pickF (.tmp _ _ rfl) (by first | rfl | assumption) ev_bool) ?_
      refine APlan.p rfl rfl (pure_move (.tmp _ _ rfl)) ?_
      refine APlan.gn rfl rfl rfl rfl (by first | rfl | assumption) ?_
      refine APlan.gn rfl rfl rfl rfl (by first | rfl | assumption) ?_
      refine APlan.gn rfl rfl rfl rfl (by first | rfl | assumption) ?_
      refine APlan.gn rfl rfl rfl rfl (by first | rfl | assumption) ?_
      refine APlan.gn rfl rfl rfl rfl (by first | rfl | assumption) ?_
      refine APlan.gn rfl rfl rfl rfl (by first | rfl | assumption) ?_
      refine APlan.gn rfl rfl rfl rfl (by first | rfl | assumption) ?_
      refine APlan.gn rfl rfl rfl rfl (by first | rfl | assumption) ?_
      refine APlan.gn rfl rfl rfl rfl (by first | rfl | assumption) ?_
      refine APlan.p rfl rfl (pure_pickF (.tmp _ _ rfl) (by first | rfl | assumption) ev_bool) ?_
      refine APlan.p rfl rfl (pure_assign (.tmp _ _ rfl)) ?_
      refine APlan.nil ?_
      refine Next.go ?_
      refine AWP.ret ?_
      -- ret 3
      refine Ret.go (.cons (.tmp _ _ rfl) .nil) _ (Heap.le.refl _) ?_
      refine ⟨?_, rfl⟩
      rw [Area.ok_right]
      try simp only [Ref.eta] at *
      simp_all [packed]
      try (intros; omega)
  · have hh6 := hg6; try simp only [decide_eq_true_eq, decide_eq_false_iff_not, Bool.not_eq_true', Bool.not_eq_false', Int.not_lt, Int.not_le, ne_eq, Decidable.not_not] at hh6
    refine APlan.gn rfl rfl rfl rfl (by first | rfl | assumption) ?_
    refine APlan.gn rfl rfl rfl rfl (by first | rfl | assumption) ?_
    refine APlan.gn rfl rfl rfl rfl (by first | rfl | assumption) ?_
    refine APlan.p rfl rfl (pure_pickF (.tmp _ _ rfl) (by first | rfl | assumption) ev_bool) ?_
    refine APlan.p rfl rfl (pure_move (.tmp _ _ rfl)) ?_
    refine APlan.gn rfl rfl rfl rfl (by first | rfl | assumption) ?_
    refine APlan.gn rfl rfl rfl rfl (by first | rfl | assumption) ?_
    refine APlan.gn rfl rfl rfl rfl (by first | rfl | assumption) ?_
    refine APlan.gn rfl rfl rfl rfl (by first | rfl | assumption) ?_
    refine APlan.gn rfl rfl rfl rfl (by first | rfl | assumption) ?_
    refine APlan.gn rfl rfl rfl rfl (by first | rfl | assumption) ?_
    refine APlan.gn rfl rfl rfl rfl (by first | rfl | assumption) ?_
    refine APlan.p rfl rfl (pure_pickF (.tmp _ _ rfl) (by first | rfl | assumption) ev_bool) ?_
    refine APlan.p rfl rfl (pure_move (.tmp _ _ rfl)) ?_
    refine APlan.gn rfl rfl rfl rfl (by first | rfl | assumption) ?_
    refine APlan.gn rfl rfl rfl rfl (by first | rfl | assumption) ?_
    refine APlan.gn rfl rfl rfl rfl (by first | rfl | assumption) ?_
    refine APlan.gn rfl rfl rfl rfl (by first | rfl | assumption) ?_
    refine APlan.gn rfl rfl rfl rfl (by first | rfl | assumption) ?_
    refine APlan.gn rfl rfl rfl rfl (by first | rfl | assumption) ?_
    refine APlan.gn rfl rfl rfl rfl (by first | rfl | assumption) ?_
    refine APlan.p rfl rfl (pure_pickF (.tmp _ _ rfl) (by first | rfl | assumption) ev_bool) ?_
    refine APlan.p rfl rfl (pure_move (.tmp _ _ rfl)) ?_
    refine APlan.gn rfl rfl rfl rfl (by first | rfl | assumption) ?_
    refine APlan.gn rfl rfl rfl rfl (by first | rfl | assumption) ?_
    refine APlan.gn rfl rfl rfl rfl (by first | rfl | assumption) ?_
    refine APlan.gn rfl rfl rfl rfl (by first | rfl | assumption) ?_
    refine APlan.gn rfl rfl rfl rfl (by first | rfl | assumption) ?_
    refine APlan.gn rfl rfl rfl rfl (by first | rfl | assumption) ?_
    refine APlan.gn rfl rfl rfl rfl (by first | rfl | assumption) ?_
    refine APlan.gn rfl rfl rfl rfl (by first | rfl | assumption) ?_
    refine APlan.gn rfl rfl rfl rfl (by first | rfl | assumption) ?_
    refine APlan.p rfl rfl (pure_pickF (.tmp _ _ rfl) (by first | rfl | assumption) ev_bool) ?_
    refine APlan.p rfl rfl (pure_assign (.tmp _ _ rfl)) ?_
    refine APlan.nil ?_
    refine Next.go ?_
    refine AWP.ret ?_
    -- ret 4
    refine Ret.go (.cons (.tmp _ _ rfl) .nil) _ (Heap.le.refl _) ?_
    refine ⟨?_, rfl⟩
    rw [Area.ok_right]
    try simp only [Ref.eta] at *
    simp_all [packed]
    try (intros; omega)

end Go.Proofs.Ytdibiongjkmlpaa
