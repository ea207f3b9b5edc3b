/-
  The walk of ValueMakes.
-/
import Derived.Test.YtncoklpecffokaaGreatDoorVc1
import Derived.Test.YtncoklpecffokaaGreatDoorHd
namespace Go.Proofs.YtncoklpecffokaaGreatDoor
open Go Go.RowKit

theorem makes_num (x : Int) : decide (NumV x = NumV x) = true := decide_eq_true rfl

set_option maxRecDepth 100000 in
theorem Makes_calls (v : Val) (x : Int) (s : List UInt8) (h0 : 0 ≤ v.bits) (h1 : v.bits < 18446744073709551616) (hv : v.text.length ≤ maxLen) (x0 : 0 ≤ x) (x1 : x < 18446744073709551616) (hs : s.length ≤ maxLen) (H : Heap) : ACall Tryz.prog 3 [v.av, .int .u64 x, .str s] H (fun y H' => y = .bool true ∧ H' = H) := by
  refine ACall.of_body Tryz.func3 rfl Tryz.ntmps3 Tryz.results3 rfl ?_
  refine AWP.seq ?_
  -- region 0
  refine AWP.region ?_
  refine AList.s rfl (step_boxI (.tmp _ _ rfl) (.inr ⟨_, rfl⟩)) ?_
  rintro _ _ ⟨rfl, hH⟩
  obtain rfl := hH.symm
  refine AList.p rfl (pure_assign ev_bool) ?_
  refine AList.nil ?_
  refine Next.go ?_
  refine AWP.seq ?_
  -- region 1
  refine AWP.region ?_
  refine AList.s rfl (step_call0 Tryz.call5 .nil (shown_calls _)) ?_
  rintro _ _ ⟨rfl, hH⟩
  obtain rfl := hH.symm
  refine AList.p rfl (pure_assign (.tmp _ _ rfl)) ?_
  refine AList.nil ?_
  refine Next.go ?_
  refine AWP.seq ?_
  refine AWP.seq ?_
  -- region 2
  refine AWP.region ?_
  refine AList.p rfl (pure_move (.tmp _ _ rfl)) ?_
  refine AList.p rfl (pure_not (.tmp _ _ rfl)) ?_
  refine AList.p rfl (pure_move (.tmp _ _ rfl)) ?_
  -- the guard in slot 11
  refine bool_casesL (t := 11) rfl (fun hg11 => ?_) (fun hg11 => ?_)
  · refine AList.gn rfl rfl rfl (by first | rfl | assumption) ?_
    refine AList.gn rfl rfl rfl (by first | rfl | assumption) ?_
    refine AList.gn rfl rfl rfl (by first | rfl | assumption) ?_
    refine AList.p rfl (pure_pickT (.tmp _ _ rfl) (by first | rfl | assumption) ev_bool) ?_
    refine AList.p rfl (pure_move (.tmp _ _ rfl)) ?_
    refine AList.gn rfl rfl rfl (by first | rfl | assumption) ?_
    refine AList.gn rfl rfl rfl (by first | rfl | assumption) ?_
    refine AList.gn rfl rfl rfl (by first | rfl | assumption) ?_
    refine AList.gn rfl rfl rfl (by first | rfl | assumption) ?_
    refine AList.p rfl (pure_pickT (.tmp _ _ rfl) (by first | rfl | assumption) ev_bool) ?_
    refine AList.nil ?_
    refine Next.go ?_
    -- c0
    refine AWP.cond_true (.tmp _ _ rfl) (by first | rfl | assumption) ?_
    refine AWP.seq ?_
    -- region 3
    refine AWP.region ?_
    refine AList.p rfl (pure_move (.tmp _ _ rfl)) ?_
    refine AList.p rfl (pure_assign (.tmp _ _ rfl)) ?_
    refine AList.nil ?_
    refine Next.go ?_
    refine AWP.ret ?_
    refine Next.rt ?_
    -- ret 0
    refine Ret.go (.cons (.tmp _ _ rfl) .nil) _ (Heap.le.refl _) ?_
    refine ⟨?_, rfl⟩
    simp_all []
  · refine AList.gp rfl rfl rfl (by first | rfl | assumption) (pure_move (.tmp _ _ rfl)) ?_
    refine AList.gp rfl rfl rfl (by first | rfl | assumption) (pure_lenStr Tryz.underlying9 (.tmp _ _ rfl)) ?_
    refine AList.gp rfl rfl rfl (by first | rfl | assumption) (pure_gtr (.tmp _ _ rfl) ev_int) ?_
    refine AList.p rfl (pure_pickF (.tmp _ _ rfl) (by first | rfl | assumption) (.tmp _ _ rfl)) ?_
    refine AList.p rfl (pure_move (.tmp _ _ rfl)) ?_
    -- the guard in slot 16
    refine bool_casesL (t := 16) rfl (fun hg16 => ?_) (fun hg16 => ?_)
    · refine AList.gn rfl rfl rfl (by first | rfl | assumption) ?_
      refine AList.gn rfl rfl rfl (by first | rfl | assumption) ?_
      refine AList.gn rfl rfl rfl (by first | rfl | assumption) ?_
      refine AList.gn rfl rfl rfl (by first | rfl | assumption) ?_
      refine AList.p rfl (pure_pickT (.tmp _ _ rfl) (by first | rfl | assumption) ev_bool) ?_
      refine AList.nil ?_
      refine Next.go ?_
      -- c0
      refine AWP.cond_true (.tmp _ _ rfl) (by first | rfl | assumption) ?_
      refine AWP.seq ?_
      -- region 3
      refine AWP.region ?_
      refine AList.p rfl (pure_move (.tmp _ _ rfl)) ?_
      refine AList.p rfl (pure_assign (.tmp _ _ rfl)) ?_
      refine AList.nil ?_
      refine Next.go ?_
      refine AWP.ret ?_
      refine Next.rt ?_
      -- ret 1
      refine Ret.go (.cons (.tmp _ _ rfl) .nil) _ (Heap.le.refl _) ?_
      refine ⟨?_, rfl⟩
      simp_all [packed]
    · first | (refine AList.gp rfl rfl rfl (by first | rfl | assumption) (pure_fieldI Tryz.underlying24 rfl Tryz.sizeOf9 (.tmp _ _ rfl)) ?_) | (refine AList.gp rfl rfl rfl (by first | rfl | assumption) (pure_field Tryz.underlying24 rfl Tryz.sizeOf9 (.tmp _ _ rfl)) ?_)
      first | (refine AList.gp rfl rfl rfl (by first | rfl | assumption) (pure_load1 Tryz.isAgg9 (.tmp _ _ rfl)) ?_) | (refine AList.gs rfl rfl rfl (by first | rfl | assumption) (step_load1 Tryz.isAgg9 (.tmp _ _ rfl) (by first | assumption | exact (by assumption : Heap.le _ _).objs _ _ (by assumption) | exact Heap.objs_set_same _ _ _ | exact (Heap.objs_set_ne _ _ (by assumption)).trans (Heap.objs_set_same _ _ _) | exact (Heap.objs_set_ne _ _ (by assumption)).trans ((Heap.objs_set_ne _ _ (by assumption)).trans (Heap.objs_set_same _ _ _)) | exact (Heap.objs_set_ne _ _ (by assumption)).trans (by assumption)) rfl) ?_; rintro _ _ ⟨rfl, hH⟩; obtain rfl := hH.symm)
      refine AList.gp rfl rfl rfl (by first | rfl | assumption) (pure_lenStr Tryz.underlying9 (.tmp _ _ rfl)) ?_
      refine AList.gp rfl rfl rfl (by first | rfl | assumption) (pure_gtr (.tmp _ _ rfl) ev_int) ?_
      refine AList.p rfl (pure_pickF (.tmp _ _ rfl) (by first | rfl | assumption) (.tmp _ _ rfl)) ?_
      refine AList.nil ?_
      refine Next.go ?_
      -- c0
      refine AWP.cond (.tmp _ _ rfl) (fun hc21 => ?_) (fun hc21 => ?_)
      · try simp only [decide_eq_true_eq] at hc21
        refine AWP.seq ?_
        -- region 3
        refine AWP.region ?_
        refine AList.p rfl (pure_move (.tmp _ _ rfl)) ?_
        refine AList.p rfl (pure_assign (.tmp _ _ rfl)) ?_
        refine AList.nil ?_
        refine Next.go ?_
        refine AWP.ret ?_
        refine Next.rt ?_
        -- ret 2
        refine Ret.go (.cons (.tmp _ _ rfl) .nil) _ (Heap.le.refl _) ?_
        refine ⟨?_, rfl⟩
        simp_all [packed]
      · try simp only [decide_eq_false_iff_not, Int.not_lt] at hc21
        refine AWP.skip ?_
        refine Next.go ?_
        refine AWP.seq ?_
        -- region 4
        refine AWP.draw [(0, true), (1, true), (2, true), (3, true), (4, true), (5, true), (6, true), (7, true), (8, true), (9, true), (10, true), (11, true), (12, true), (13, true), (14, true), (15, true), (16, true), (17, true), (18, true), (19, true), (20, true), (21, true), (22, true), (23, true), (24, true), (25, true), (26, true), (27, true), (28, true), (29, true), (30, true), (31, true), (32, true), (33, true), (34, true), (35, true), (36, true), (37, true)] rfl (by decide +kernel) ?_
        first | (refine APlan.p rfl rfl (pure_loadN Tryz.isAgg24 Tryz.sizeOf24 (.tmp _ _ rfl) (Nat.le_of_ble_eq_true rfl)) ?_) | (refine APlan.f rfl rfl (fun _ => step_loadN Tryz.isAgg24 Tryz.sizeOf24 (.tmp _ _ rfl) (by first | assumption | exact (by assumption : Heap.le _ _).objs _ _ (by assumption) | exact Heap.objs_set_same _ _ _ | exact (Heap.objs_set_ne _ _ (by assumption)).trans (Heap.objs_set_same _ _ _) | exact (Heap.objs_set_ne _ _ (by assumption)).trans ((Heap.objs_set_ne _ _ (by assumption)).trans (Heap.objs_set_same _ _ _)) | exact (Heap.objs_set_ne _ _ (by assumption)).trans (by assumption)) (Nat.le_of_ble_eq_true rfl)) ?_)
        refine APlan.f rfl rfl (fun _ => step_call0 Tryz.call6 (.cons (.tmp _ _ rfl) .nil) (vRight_calls v h0 h1 hv _)) ?_
        first | (refine APlan.p rfl rfl (pure_loadN Tryz.isAgg24 Tryz.sizeOf24 (.tmp _ _ rfl) (Nat.le_of_ble_eq_true rfl)) ?_) | (refine APlan.f rfl rfl (fun _ => step_loadN Tryz.isAgg24 Tryz.sizeOf24 (.tmp _ _ rfl) (by first | assumption | exact (by assumption : Heap.le _ _).objs _ _ (by assumption) | exact Heap.objs_set_same _ _ _ | exact (Heap.objs_set_ne _ _ (by assumption)).trans (Heap.objs_set_same _ _ _) | exact (Heap.objs_set_ne _ _ (by assumption)).trans ((Heap.objs_set_ne _ _ (by assumption)).trans (Heap.objs_set_same _ _ _)) | exact (Heap.objs_set_ne _ _ (by assumption)).trans (by assumption)) (Nat.le_of_ble_eq_true rfl)) ?_)
        refine APlan.f rfl rfl (fun _ => step_call0 Tryz.call7 (.cons (.tmp _ _ rfl) .nil) (rRight_calls v h0 h1 hv _)) ?_
        refine APlan.p rfl rfl (pure_eqlB Tryz.underlying4 (.tmp _ _ rfl) (.tmp _ _ rfl)) ?_
        refine APlan.p rfl rfl (pure_move (.tmp _ _ rfl)) ?_
        -- the guard in slot 28
        refine bool_casesP (t := 28) rfl (fun hg28 => ?_) (fun hg28 => ?_)
        · refine APlan.gp rfl rfl rfl rfl (by first | rfl | assumption) (pure_move (.tmp _ _ rfl)) ?_
          refine APlan.gf rfl rfl rfl rfl (by first | rfl | assumption) (fun _ => step_call0 Tryz.call8 (.cons (.tmp _ _ rfl) .nil) (vNumber_calls _ (by omega) (by omega) _)) ?_
          refine APlan.gp rfl rfl rfl rfl (by first | rfl | assumption) (pure_move (.tmp _ _ rfl)) ?_
          refine APlan.gf rfl rfl rfl rfl (by first | rfl | assumption) (fun _ => step_call0 Tryz.call9 (.cons (.tmp _ _ rfl) .nil) (rNumber_calls _ (by omega) (by omega) _)) ?_
          refine APlan.gp rfl rfl rfl rfl (by first | rfl | assumption) (pure_eqlA Tryz.eqGuardType24 (.tmp _ _ rfl) (.tmp _ _ rfl) (eqVal (NumV x) (NumV x))) ?_
          refine APlan.p rfl rfl (pure_pickT (.tmp _ _ rfl) (by first | rfl | assumption) (.tmp _ _ rfl)) ?_
          refine APlan.p rfl rfl (pure_move (.tmp _ _ rfl)) ?_
          -- the guard in slot 35
          refine bool_casesP (t := 35) rfl (fun hg35 => ?_) (fun hg35 => ?_)
          · refine APlan.gp rfl rfl rfl rfl (by first | rfl | assumption) (pure_move (.tmp _ _ rfl)) ?_
            refine APlan.gf rfl rfl rfl rfl (by first | rfl | assumption) (fun _ => step_call0 Tryz.call10 (.cons (.tmp _ _ rfl) .nil) (vText_calls _ (by assumption) _)) ?_
            refine APlan.gp rfl rfl rfl rfl (by first | rfl | assumption) (pure_move (.tmp _ _ rfl)) ?_
            refine APlan.gf rfl rfl rfl rfl (by first | rfl | assumption) (fun _ => step_call0 Tryz.call11 (.cons (.tmp _ _ rfl) .nil) (rText_calls _ (by assumption) _)) ?_
            refine APlan.gp rfl rfl rfl rfl (by first | rfl | assumption) (pure_eqlA Tryz.eqGuardType24 (.tmp _ _ rfl) (.tmp _ _ rfl) (eqVal (TextV s) (TextV s))) ?_
            refine APlan.p rfl rfl (pure_pickT (.tmp _ _ rfl) (by first | rfl | assumption) (.tmp _ _ rfl)) ?_
            refine APlan.p rfl rfl (pure_move (.tmp _ _ rfl)) ?_
            -- the guard in slot 42
            refine bool_casesP (t := 42) rfl (fun hg42 => ?_) (fun hg42 => ?_)
            · first | (refine APlan.gp rfl rfl rfl rfl (by first | rfl | assumption) (pure_fieldI Tryz.underlying24 rfl Tryz.sizeOf4 (.tmp _ _ rfl)) ?_) | (refine APlan.gp rfl rfl rfl rfl (by first | rfl | assumption) (pure_field Tryz.underlying24 rfl Tryz.sizeOf4 (.tmp _ _ rfl)) ?_)
              first | (refine APlan.gp rfl rfl rfl rfl (by first | rfl | assumption) (pure_load1 Tryz.isAgg4 (.tmp _ _ rfl)) ?_) | (refine APlan.gf rfl rfl rfl rfl (by first | rfl | assumption) (fun _ => step_load1 Tryz.isAgg4 (.tmp _ _ rfl) (by first | assumption | exact (by assumption : Heap.le _ _).objs _ _ (by assumption) | exact Heap.objs_set_same _ _ _ | exact (Heap.objs_set_ne _ _ (by assumption)).trans (Heap.objs_set_same _ _ _) | exact (Heap.objs_set_ne _ _ (by assumption)).trans ((Heap.objs_set_ne _ _ (by assumption)).trans (Heap.objs_set_same _ _ _)) | exact (Heap.objs_set_ne _ _ (by assumption)).trans (by assumption)) rfl) ?_)
              refine APlan.gf rfl rfl rfl rfl (by first | rfl | assumption) (fun _ => step_call0 Tryz.call12 (.cons (.tmp _ _ rfl) .nil) (vBool_calls _ _)) ?_
              first | (refine APlan.gp rfl rfl rfl rfl (by first | rfl | assumption) (pure_fieldI Tryz.underlying24 rfl Tryz.sizeOf4 (.tmp _ _ rfl)) ?_) | (refine APlan.gp rfl rfl rfl rfl (by first | rfl | assumption) (pure_field Tryz.underlying24 rfl Tryz.sizeOf4 (.tmp _ _ rfl)) ?_)
              first | (refine APlan.gp rfl rfl rfl rfl (by first | rfl | assumption) (pure_load1 Tryz.isAgg4 (.tmp _ _ rfl)) ?_) | (refine APlan.gf rfl rfl rfl rfl (by first | rfl | assumption) (fun _ => step_load1 Tryz.isAgg4 (.tmp _ _ rfl) (by first | assumption | exact (by assumption : Heap.le _ _).objs _ _ (by assumption) | exact Heap.objs_set_same _ _ _ | exact (Heap.objs_set_ne _ _ (by assumption)).trans (Heap.objs_set_same _ _ _) | exact (Heap.objs_set_ne _ _ (by assumption)).trans ((Heap.objs_set_ne _ _ (by assumption)).trans (Heap.objs_set_same _ _ _)) | exact (Heap.objs_set_ne _ _ (by assumption)).trans (by assumption)) rfl) ?_)
              refine APlan.gf rfl rfl rfl rfl (by first | rfl | assumption) (fun _ => step_call0 Tryz.call13 (.cons (.tmp _ _ rfl) .nil) (rBool_calls _ _)) ?_
              refine APlan.gp rfl rfl rfl rfl (by first | rfl | assumption) (pure_eqlA Tryz.eqGuardType24 (.tmp _ _ rfl) (.tmp _ _ rfl) (eqVal (BoolV v.is) (BoolV v.is))) ?_
              refine APlan.p rfl rfl (pure_pickT (.tmp _ _ rfl) (by first | rfl | assumption) (.tmp _ _ rfl)) ?_
              refine APlan.p rfl rfl (pure_move (.tmp _ _ rfl)) ?_
              -- the guard in slot 51
              refine bool_casesP (t := 51) rfl (fun hg51 => ?_) (fun hg51 => ?_)
              · first | (refine APlan.gp rfl rfl rfl rfl (by first | rfl | assumption) (pure_fieldI Tryz.underlying24 rfl Tryz.sizeOf3 (.tmp _ _ rfl)) ?_) | (refine APlan.gp rfl rfl rfl rfl (by first | rfl | assumption) (pure_field Tryz.underlying24 rfl Tryz.sizeOf3 (.tmp _ _ rfl)) ?_)
                first | (refine APlan.gp rfl rfl rfl rfl (by first | rfl | assumption) (pure_load1 Tryz.isAgg3 (.tmp _ _ rfl)) ?_) | (refine APlan.gf rfl rfl rfl rfl (by first | rfl | assumption) (fun _ => step_load1 Tryz.isAgg3 (.tmp _ _ rfl) (by first | assumption | exact (by assumption : Heap.le _ _).objs _ _ (by assumption) | exact Heap.objs_set_same _ _ _ | exact (Heap.objs_set_ne _ _ (by assumption)).trans (Heap.objs_set_same _ _ _) | exact (Heap.objs_set_ne _ _ (by assumption)).trans ((Heap.objs_set_ne _ _ (by assumption)).trans (Heap.objs_set_same _ _ _)) | exact (Heap.objs_set_ne _ _ (by assumption)).trans (by assumption)) rfl) ?_)
                refine APlan.gf rfl rfl rfl rfl (by first | rfl | assumption) (fun _ => step_call0 Tryz.call14 (.cons (.tmp _ _ rfl) .nil) (vFail_calls _ _)) ?_
                first | (refine APlan.gp rfl rfl rfl rfl (by first | rfl | assumption) (pure_fieldI Tryz.underlying24 rfl Tryz.sizeOf3 (.tmp _ _ rfl)) ?_) | (refine APlan.gp rfl rfl rfl rfl (by first | rfl | assumption) (pure_field Tryz.underlying24 rfl Tryz.sizeOf3 (.tmp _ _ rfl)) ?_)
                first | (refine APlan.gp rfl rfl rfl rfl (by first | rfl | assumption) (pure_load1 Tryz.isAgg3 (.tmp _ _ rfl)) ?_) | (refine APlan.gf rfl rfl rfl rfl (by first | rfl | assumption) (fun _ => step_load1 Tryz.isAgg3 (.tmp _ _ rfl) (by first | assumption | exact (by assumption : Heap.le _ _).objs _ _ (by assumption) | exact Heap.objs_set_same _ _ _ | exact (Heap.objs_set_ne _ _ (by assumption)).trans (Heap.objs_set_same _ _ _) | exact (Heap.objs_set_ne _ _ (by assumption)).trans ((Heap.objs_set_ne _ _ (by assumption)).trans (Heap.objs_set_same _ _ _)) | exact (Heap.objs_set_ne _ _ (by assumption)).trans (by assumption)) rfl) ?_)
                refine APlan.gf rfl rfl rfl rfl (by first | rfl | assumption) (fun _ => step_call0 Tryz.call15 (.cons (.tmp _ _ rfl) .nil) (rFail_calls _ _)) ?_
                refine APlan.gp rfl rfl rfl rfl (by first | rfl | assumption) (pure_eqlA Tryz.eqGuardType24 (.tmp _ _ rfl) (.tmp _ _ rfl) (eqVal (FailV v.fail) (FailV v.fail))) ?_
                refine APlan.p rfl rfl (pure_pickT (.tmp _ _ rfl) (by first | rfl | assumption) (.tmp _ _ rfl)) ?_
                refine APlan.p rfl rfl (pure_assign (.tmp _ _ rfl)) ?_
                refine APlan.nil ?_
                refine Next.go ?_
                refine AWP.ret ?_
                -- ret 3
                refine Ret.go (.cons (.tmp _ _ rfl) .nil) _ (Heap.le.refl _) ?_
                refine ⟨?_, rfl⟩
                simp_all [packed, right_same]
              · refine APlan.gn rfl rfl rfl rfl (by first | rfl | assumption) ?_
                refine APlan.gn rfl rfl rfl rfl (by first | rfl | assumption) ?_
                refine APlan.gn rfl rfl rfl rfl (by first | rfl | assumption) ?_
                refine APlan.gn rfl rfl rfl rfl (by first | rfl | assumption) ?_
                refine APlan.gn rfl rfl rfl rfl (by first | rfl | assumption) ?_
                refine APlan.gn rfl rfl rfl rfl (by first | rfl | assumption) ?_
                refine APlan.gn rfl rfl rfl rfl (by first | rfl | assumption) ?_
                refine APlan.p rfl rfl (pure_pickF (.tmp _ _ rfl) (by first | rfl | assumption) ev_bool) ?_
                refine APlan.p rfl rfl (pure_assign (.tmp _ _ rfl)) ?_
                refine APlan.nil ?_
                refine Next.go ?_
                refine AWP.ret ?_
                -- ret 4
                refine Ret.go (.cons (.tmp _ _ rfl) .nil) _ (Heap.le.refl _) ?_
                refine ⟨?_, rfl⟩
                simp_all [right_same]
            · refine APlan.gn rfl rfl rfl rfl (by first | rfl | assumption) ?_
              refine APlan.gn rfl rfl rfl rfl (by first | rfl | assumption) ?_
              refine APlan.gn rfl rfl rfl rfl (by first | rfl | assumption) ?_
              refine APlan.gn rfl rfl rfl rfl (by first | rfl | assumption) ?_
              refine APlan.gn rfl rfl rfl rfl (by first | rfl | assumption) ?_
              refine APlan.gn rfl rfl rfl rfl (by first | rfl | assumption) ?_
              refine APlan.gn rfl rfl rfl rfl (by first | rfl | assumption) ?_
              refine APlan.p rfl rfl (pure_pickF (.tmp _ _ rfl) (by first | rfl | assumption) ev_bool) ?_
              refine APlan.p rfl rfl (pure_move (.tmp _ _ rfl)) ?_
              refine APlan.gn rfl rfl rfl rfl (by first | rfl | assumption) ?_
              refine APlan.gn rfl rfl rfl rfl (by first | rfl | assumption) ?_
              refine APlan.gn rfl rfl rfl rfl (by first | rfl | assumption) ?_
              refine APlan.gn rfl rfl rfl rfl (by first | rfl | assumption) ?_
              refine APlan.gn rfl rfl rfl rfl (by first | rfl | assumption) ?_
              refine APlan.gn rfl rfl rfl rfl (by first | rfl | assumption) ?_
              refine APlan.gn rfl rfl rfl rfl (by first | rfl | assumption) ?_
              refine APlan.p rfl rfl (pure_pickF (.tmp _ _ rfl) (by first | rfl | assumption) ev_bool) ?_
              refine APlan.p rfl rfl (pure_assign (.tmp _ _ rfl)) ?_
              refine APlan.nil ?_
              refine Next.go ?_
              refine AWP.ret ?_
              -- ret 5
              refine Ret.go (.cons (.tmp _ _ rfl) .nil) _ (Heap.le.refl _) ?_
              refine ⟨?_, rfl⟩
              simp_all [right_same]
          · refine APlan.gn rfl rfl rfl rfl (by first | rfl | assumption) ?_
            refine APlan.gn rfl rfl rfl rfl (by first | rfl | assumption) ?_
            refine APlan.gn rfl rfl rfl rfl (by first | rfl | assumption) ?_
            refine APlan.gn rfl rfl rfl rfl (by first | rfl | assumption) ?_
            refine APlan.gn rfl rfl rfl rfl (by first | rfl | assumption) ?_
            refine APlan.p rfl rfl (pure_pickF (.tmp _ _ rfl) (by first | rfl | assumption) ev_bool) ?_
            refine APlan.p rfl rfl (pure_move (.tmp _ _ rfl)) ?_
            refine APlan.gn rfl rfl rfl rfl (by first | rfl | assumption) ?_
            refine APlan.gn rfl rfl rfl rfl (by first | rfl | assumption) ?_
            refine APlan.gn rfl rfl rfl rfl (by first | rfl | assumption) ?_
            refine APlan.gn rfl rfl rfl rfl (by first | rfl | assumption) ?_
            refine APlan.gn rfl rfl rfl rfl (by first | rfl | assumption) ?_
            refine APlan.gn rfl rfl rfl rfl (by first | rfl | assumption) ?_
            refine APlan.gn rfl rfl rfl rfl (by first | rfl | assumption) ?_
            refine APlan.p rfl rfl (pure_pickF (.tmp _ _ rfl) (by first | rfl | assumption) ev_bool) ?_
            refine APlan.p rfl rfl (pure_move (.tmp _ _ rfl)) ?_
            refine APlan.gn rfl rfl rfl rfl (by first | rfl | assumption) ?_
            refine APlan.gn rfl rfl rfl rfl (by first | rfl | assumption) ?_
            refine APlan.gn rfl rfl rfl rfl (by first | rfl | assumption) ?_
            refine APlan.gn rfl rfl rfl rfl (by first | rfl | assumption) ?_
            refine APlan.gn rfl rfl rfl rfl (by first | rfl | assumption) ?_
            refine APlan.gn rfl rfl rfl rfl (by first | rfl | assumption) ?_
            refine APlan.gn rfl rfl rfl rfl (by first | rfl | assumption) ?_
            refine APlan.p rfl rfl (pure_pickF (.tmp _ _ rfl) (by first | rfl | assumption) ev_bool) ?_
            refine APlan.p rfl rfl (pure_assign (.tmp _ _ rfl)) ?_
            refine APlan.nil ?_
            refine Next.go ?_
            refine AWP.ret ?_
            -- ret 6
            refine Ret.go (.cons (.tmp _ _ rfl) .nil) _ (Heap.le.refl _) ?_
            refine ⟨?_, rfl⟩
            simp_all [right_same]
        · refine APlan.gn rfl rfl rfl rfl (by first | rfl | assumption) ?_
          refine APlan.gn rfl rfl rfl rfl (by first | rfl | assumption) ?_
          refine APlan.gn rfl rfl rfl rfl (by first | rfl | assumption) ?_
          refine APlan.gn rfl rfl rfl rfl (by first | rfl | assumption) ?_
          refine APlan.gn rfl rfl rfl rfl (by first | rfl | assumption) ?_
          refine APlan.p rfl rfl (pure_pickF (.tmp _ _ rfl) (by first | rfl | assumption) ev_bool) ?_
          refine APlan.p rfl rfl (pure_move (.tmp _ _ rfl)) ?_
          refine APlan.gn rfl rfl rfl rfl (by first | rfl | assumption) ?_
          refine APlan.gn rfl rfl rfl rfl (by first | rfl | assumption) ?_
          refine APlan.gn rfl rfl rfl rfl (by first | rfl | assumption) ?_
          refine APlan.gn rfl rfl rfl rfl (by first | rfl | assumption) ?_
          refine APlan.gn rfl rfl rfl rfl (by first | rfl | assumption) ?_
          refine APlan.p rfl rfl (pure_pickF (.tmp _ _ rfl) (by first | rfl | assumption) ev_bool) ?_
          refine APlan.p rfl rfl (pure_move (.tmp _ _ rfl)) ?_
          refine APlan.gn rfl rfl rfl rfl (by first | rfl | assumption) ?_
          refine APlan.gn rfl rfl rfl rfl (by first | rfl | assumption) ?_
          refine APlan.gn rfl rfl rfl rfl (by first | rfl | assumption) ?_
          refine APlan.gn rfl rfl rfl rfl (by first | rfl | assumption) ?_
          refine APlan.gn rfl rfl rfl rfl (by first | rfl | assumption) ?_
          refine APlan.gn rfl rfl rfl rfl (by first | rfl | assumption) ?_
          refine APlan.gn rfl rfl rfl rfl (by first | rfl | assumption) ?_
          refine APlan.p rfl rfl (pure_pickF (.tmp _ _ rfl) (by first | rfl | assumption) ev_bool) ?_
          refine APlan.p rfl rfl (pure_move (.tmp _ _ rfl)) ?_
          refine APlan.gn rfl rfl rfl rfl (by first | rfl | assumption) ?_
          refine APlan.gn rfl rfl rfl rfl (by first | rfl | assumption) ?_
          refine APlan.gn rfl rfl rfl rfl (by first | rfl | assumption) ?_
          refine APlan.gn rfl rfl rfl rfl (by first | rfl | assumption) ?_
          refine APlan.gn rfl rfl rfl rfl (by first | rfl | assumption) ?_
          refine APlan.gn rfl rfl rfl rfl (by first | rfl | assumption) ?_
          refine APlan.gn rfl rfl rfl rfl (by first | rfl | assumption) ?_
          refine APlan.p rfl rfl (pure_pickF (.tmp _ _ rfl) (by first | rfl | assumption) ev_bool) ?_
          refine APlan.p rfl rfl (pure_assign (.tmp _ _ rfl)) ?_
          refine APlan.nil ?_
          refine Next.go ?_
          refine AWP.ret ?_
          -- ret 7
          refine Ret.go (.cons (.tmp _ _ rfl) .nil) _ (Heap.le.refl _) ?_
          refine ⟨?_, rfl⟩
          simp_all [right_same]

end Go.Proofs.YtncoklpecffokaaGreatDoor
