/-
  Which values are right.
-/
import Derived.Test.YtncoklpecffokaaGreatDoorVb1
namespace Go.Proofs.YtncoklpecffokaaGreatDoor
open Go Go.RowKit

def RightV (v : Val) : Bool :=
  if v.kind = 0 then decide (v = ⟨0, 0, false, [], 0⟩) else if v.kind = 1 then decide (v = NumV v.bits) else if v.kind = 2 then decide (v = BoolV v.is) else if v.kind = 3 then decide (v = TextV v.text)
  else if v.kind = 4 then decide (v = FailV v.fail) && decide (FailName v.fail ≠ []) else false
def RightR (v : Val) : Bool :=
  if v.kind = 0 then decide (v = ⟨v.kind, 0, false, [], 0⟩) else if v.kind = 1 then decide (KindF v.bits < 3) && decide (v = ⟨v.kind, v.bits, false, [], 0⟩) else if v.kind = 2 then decide (v = ⟨v.kind, 0, v.is, [], 0⟩)
  else if v.kind = 3 then decide (v.text.length ≤ 1000) && decide (v = ⟨v.kind, 0, false, v.text, 0⟩) else if v.kind = 4 then (decide (1 ≤ v.fail) && decide (v.fail ≤ 8)) && decide (v = ⟨v.kind, 0, false, [], v.fail⟩) else false

set_option maxRecDepth 100000 in
theorem vRight_calls (v : Val) (h0 : 0 ≤ v.bits) (h1 : v.bits < 18446744073709551616) (hs : v.text.length ≤ maxLen) (H : Heap) : ACall Tryz.prog 6 [v.av] H (fun y H' => y = .bool (RightV v) ∧ H' = H) := by
  refine ACall.of_body Tryz.func6 rfl Tryz.ntmps6 Tryz.results6 rfl ?_
  refine AWP.seq ?_
  -- region 0
  refine AWP.region ?_
  refine AList.s rfl (step_boxI (.tmp _ _ rfl) (.inr ⟨_, rfl⟩)) ?_
  rintro _ _ ⟨rfl, hH⟩
  obtain rfl := hH.symm
  refine AList.p rfl (pure_assign ev_bool) ?_
  refine AList.nil ?_
  refine Next.go ?_
  refine AWP.seq ?_
  refine AWP.seq ?_
  -- region 1
  refine AWP.region ?_
  first | (refine AList.p rfl (pure_fieldI Tryz.underlying24 rfl Tryz.sizeOf3 (.tmp _ _ rfl)) ?_) | (refine AList.p rfl (pure_field Tryz.underlying24 rfl Tryz.sizeOf3 (.tmp _ _ rfl)) ?_)
  first | (refine AList.p rfl (pure_load1 Tryz.isAgg3 (.tmp _ _ rfl)) ?_) | (refine AList.s rfl (step_load1 Tryz.isAgg3 (.tmp _ _ rfl) (by first | assumption | exact (by assumption : Heap.le _ _).objs _ _ (by assumption) | exact Heap.objs_set_same _ _ _ | exact (Heap.objs_set_ne _ _ (by assumption)).trans (Heap.objs_set_same _ _ _) | exact (Heap.objs_set_ne _ _ (by assumption)).trans ((Heap.objs_set_ne _ _ (by assumption)).trans (Heap.objs_set_same _ _ _)) | exact (Heap.objs_set_ne _ _ (by assumption)).trans (by assumption)) rfl) ?_; rintro _ _ ⟨rfl, hH⟩; obtain rfl := hH.symm)
  refine AList.nil ?_
  refine Next.go ?_
  refine AWP.block ?_
  refine AWP.seq ?_
  -- region 2
  refine AWP.region ?_
  refine AList.p rfl (pure_eql (.tmp _ _ rfl) ev_int) ?_
  refine AList.p rfl (pure_assign (.tmp _ _ rfl)) ?_
  refine AList.nil ?_
  refine Next.go ?_
  -- c0
  refine AWP.cond (.tmp _ _ rfl) (fun hc5 => ?_) (fun hc5 => ?_)
  · try simp only [decide_eq_true_eq] at hc5
    refine AWP.seq ?_
    -- region 3
    refine AWP.region ?_
    first | (refine AList.p rfl (pure_loadN Tryz.isAgg24 Tryz.sizeOf24 (.tmp _ _ rfl) (Nat.le_of_ble_eq_true rfl)) ?_) | (refine AList.s rfl (step_loadN Tryz.isAgg24 Tryz.sizeOf24 (.tmp _ _ rfl) (by first | assumption | exact (by assumption : Heap.le _ _).objs _ _ (by assumption) | exact Heap.objs_set_same _ _ _ | exact (Heap.objs_set_ne _ _ (by assumption)).trans (Heap.objs_set_same _ _ _) | exact (Heap.objs_set_ne _ _ (by assumption)).trans ((Heap.objs_set_ne _ _ (by assumption)).trans (Heap.objs_set_same _ _ _)) | exact (Heap.objs_set_ne _ _ (by assumption)).trans (by assumption)) (Nat.le_of_ble_eq_true rfl)) ?_; rintro _ _ ⟨rfl, hH⟩; obtain rfl := hH.symm)
    refine AList.p rfl (pure_build [(0, 1), (1, 1), (2, 1), (3, 1), (4, 1)] Tryz.underlying24 Tryz.zeroValue24 (zr24) rfl (pl24 _ Tryz.underlying24) .nil rfl) ?_
    refine AList.p rfl (pure_eqlA Tryz.eqGuardType24 (.tmp _ _ rfl) (.tmp _ _ rfl) (eqVal v (⟨0, 0, false, [], 0⟩))) ?_
    refine AList.p rfl (pure_assign (.tmp _ _ rfl)) ?_
    refine AList.nil ?_
    refine Next.go ?_
    refine AWP.ret ?_
    refine Block.rt ?_
    refine Next.rt ?_
    -- ret 0
    refine Ret.go (.cons (.tmp _ _ rfl) .nil) _ (Heap.le.refl _) ?_
    refine ⟨?_, rfl⟩
    simp only [packed, RightV]
    first | rw [if_pos (by omega)] | rw [if_neg (by omega), if_pos (by omega)] | rw [if_neg (by omega), if_neg (by omega), if_pos (by omega)] | rw [if_neg (by omega), if_neg (by omega), if_neg (by omega), if_pos (by omega)] | rw [if_neg (by omega), if_neg (by omega), if_neg (by omega), if_neg (by omega), if_pos (by omega)] | rw [if_neg (by omega), if_neg (by omega), if_neg (by omega), if_neg (by omega), if_neg (by omega)]
    first | done | rfl | (rw [hg38]; simp)
  · try simp only [decide_eq_false_iff_not] at hc5
    refine AWP.seq ?_
    -- region 4
    refine AWP.region ?_
    refine AList.p rfl (pure_eql (.tmp _ _ rfl) ev_int) ?_
    refine AList.p rfl (pure_assign (.tmp _ _ rfl)) ?_
    refine AList.nil ?_
    refine Next.go ?_
    -- c1
    refine AWP.cond (.tmp _ _ rfl) (fun hc10 => ?_) (fun hc10 => ?_)
    · try simp only [decide_eq_true_eq] at hc10
      refine AWP.seq ?_
      -- region 5
      refine AWP.draw [(0, true), (1, true), (2, true), (3, true), (4, true), (5, true)] rfl (by decide +kernel) ?_
      first | (refine APlan.p rfl rfl (pure_loadN Tryz.isAgg24 Tryz.sizeOf24 (.tmp _ _ rfl) (Nat.le_of_ble_eq_true rfl)) ?_) | (refine APlan.f rfl rfl (fun _ => step_loadN Tryz.isAgg24 Tryz.sizeOf24 (.tmp _ _ rfl) (by first | assumption | exact (by assumption : Heap.le _ _).objs _ _ (by assumption) | exact Heap.objs_set_same _ _ _ | exact (Heap.objs_set_ne _ _ (by assumption)).trans (Heap.objs_set_same _ _ _) | exact (Heap.objs_set_ne _ _ (by assumption)).trans ((Heap.objs_set_ne _ _ (by assumption)).trans (Heap.objs_set_same _ _ _)) | exact (Heap.objs_set_ne _ _ (by assumption)).trans (by assumption)) (Nat.le_of_ble_eq_true rfl)) ?_)
      first | (refine APlan.p rfl rfl (pure_fieldI Tryz.underlying24 rfl Tryz.sizeOf22 (.tmp _ _ rfl)) ?_) | (refine APlan.p rfl rfl (pure_field Tryz.underlying24 rfl Tryz.sizeOf22 (.tmp _ _ rfl)) ?_)
      first | (refine APlan.p rfl rfl (pure_load1 Tryz.isAgg22 (.tmp _ _ rfl)) ?_) | (refine APlan.f rfl rfl (fun _ => step_load1 Tryz.isAgg22 (.tmp _ _ rfl) (by first | assumption | exact (by assumption : Heap.le _ _).objs _ _ (by assumption) | exact Heap.objs_set_same _ _ _ | exact (Heap.objs_set_ne _ _ (by assumption)).trans (Heap.objs_set_same _ _ _) | exact (Heap.objs_set_ne _ _ (by assumption)).trans ((Heap.objs_set_ne _ _ (by assumption)).trans (Heap.objs_set_same _ _ _)) | exact (Heap.objs_set_ne _ _ (by assumption)).trans (by assumption)) rfl) ?_)
      refine APlan.f rfl rfl (fun _ => step_call0 Tryz.call8 (.cons (.tmp _ _ rfl) .nil) (vNumber_calls _ (by omega) (by omega) _)) ?_
      refine APlan.p rfl rfl (pure_eqlA Tryz.eqGuardType24 (.tmp _ _ rfl) (.tmp _ _ rfl) (eqVal v (NumV v.bits))) ?_
      refine APlan.p rfl rfl (pure_assign (.tmp _ _ rfl)) ?_
      refine APlan.nil ?_
      refine Next.go ?_
      refine AWP.ret ?_
      refine Block.rt ?_
      refine Next.rt ?_
      -- ret 1
      refine Ret.go (.cons (.tmp _ _ rfl) .nil) _ (Heap.le.refl _) ?_
      refine ⟨?_, rfl⟩
      simp only [packed, RightV]
      first | rw [if_pos (by omega)] | rw [if_neg (by omega), if_pos (by omega)] | rw [if_neg (by omega), if_neg (by omega), if_pos (by omega)] | rw [if_neg (by omega), if_neg (by omega), if_neg (by omega), if_pos (by omega)] | rw [if_neg (by omega), if_neg (by omega), if_neg (by omega), if_neg (by omega), if_pos (by omega)] | rw [if_neg (by omega), if_neg (by omega), if_neg (by omega), if_neg (by omega), if_neg (by omega)]
      first | done | rfl | (rw [hg38]; simp)
    · try simp only [decide_eq_false_iff_not] at hc10
      refine AWP.seq ?_
      -- region 6
      refine AWP.region ?_
      refine AList.p rfl (pure_eql (.tmp _ _ rfl) ev_int) ?_
      refine AList.p rfl (pure_assign (.tmp _ _ rfl)) ?_
      refine AList.nil ?_
      refine Next.go ?_
      -- c2
      refine AWP.cond (.tmp _ _ rfl) (fun hc17 => ?_) (fun hc17 => ?_)
      · try simp only [decide_eq_true_eq] at hc17
        refine AWP.seq ?_
        -- region 7
        refine AWP.draw [(0, true), (1, true), (2, true), (3, true), (4, true), (5, true)] rfl (by decide +kernel) ?_
        first | (refine APlan.p rfl rfl (pure_loadN Tryz.isAgg24 Tryz.sizeOf24 (.tmp _ _ rfl) (Nat.le_of_ble_eq_true rfl)) ?_) | (refine APlan.f rfl rfl (fun _ => step_loadN Tryz.isAgg24 Tryz.sizeOf24 (.tmp _ _ rfl) (by first | assumption | exact (by assumption : Heap.le _ _).objs _ _ (by assumption) | exact Heap.objs_set_same _ _ _ | exact (Heap.objs_set_ne _ _ (by assumption)).trans (Heap.objs_set_same _ _ _) | exact (Heap.objs_set_ne _ _ (by assumption)).trans ((Heap.objs_set_ne _ _ (by assumption)).trans (Heap.objs_set_same _ _ _)) | exact (Heap.objs_set_ne _ _ (by assumption)).trans (by assumption)) (Nat.le_of_ble_eq_true rfl)) ?_)
        first | (refine APlan.p rfl rfl (pure_fieldI Tryz.underlying24 rfl Tryz.sizeOf4 (.tmp _ _ rfl)) ?_) | (refine APlan.p rfl rfl (pure_field Tryz.underlying24 rfl Tryz.sizeOf4 (.tmp _ _ rfl)) ?_)
        first | (refine APlan.p rfl rfl (pure_load1 Tryz.isAgg4 (.tmp _ _ rfl)) ?_) | (refine APlan.f rfl rfl (fun _ => step_load1 Tryz.isAgg4 (.tmp _ _ rfl) (by first | assumption | exact (by assumption : Heap.le _ _).objs _ _ (by assumption) | exact Heap.objs_set_same _ _ _ | exact (Heap.objs_set_ne _ _ (by assumption)).trans (Heap.objs_set_same _ _ _) | exact (Heap.objs_set_ne _ _ (by assumption)).trans ((Heap.objs_set_ne _ _ (by assumption)).trans (Heap.objs_set_same _ _ _)) | exact (Heap.objs_set_ne _ _ (by assumption)).trans (by assumption)) rfl) ?_)
        refine APlan.f rfl rfl (fun _ => step_call0 Tryz.call12 (.cons (.tmp _ _ rfl) .nil) (vBool_calls _ _)) ?_
        refine APlan.p rfl rfl (pure_eqlA Tryz.eqGuardType24 (.tmp _ _ rfl) (.tmp _ _ rfl) (eqVal v (BoolV v.is))) ?_
        refine APlan.p rfl rfl (pure_assign (.tmp _ _ rfl)) ?_
        refine APlan.nil ?_
        refine Next.go ?_
        refine AWP.ret ?_
        refine Block.rt ?_
        refine Next.rt ?_
        -- ret 2
        refine Ret.go (.cons (.tmp _ _ rfl) .nil) _ (Heap.le.refl _) ?_
        refine ⟨?_, rfl⟩
        simp only [packed, RightV]
        first | rw [if_pos (by omega)] | rw [if_neg (by omega), if_pos (by omega)] | rw [if_neg (by omega), if_neg (by omega), if_pos (by omega)] | rw [if_neg (by omega), if_neg (by omega), if_neg (by omega), if_pos (by omega)] | rw [if_neg (by omega), if_neg (by omega), if_neg (by omega), if_neg (by omega), if_pos (by omega)] | rw [if_neg (by omega), if_neg (by omega), if_neg (by omega), if_neg (by omega), if_neg (by omega)]
        first | done | rfl | (rw [hg38]; simp)
      · try simp only [decide_eq_false_iff_not] at hc17
        refine AWP.seq ?_
        -- region 8
        refine AWP.region ?_
        refine AList.p rfl (pure_eql (.tmp _ _ rfl) ev_int) ?_
        refine AList.p rfl (pure_assign (.tmp _ _ rfl)) ?_
        refine AList.nil ?_
        refine Next.go ?_
        -- c3
        refine AWP.cond (.tmp _ _ rfl) (fun hc24 => ?_) (fun hc24 => ?_)
        · try simp only [decide_eq_true_eq] at hc24
          refine AWP.seq ?_
          -- region 9
          refine AWP.draw [(0, true), (1, true), (2, true), (3, true), (4, true), (5, true)] rfl (by decide +kernel) ?_
          first | (refine APlan.p rfl rfl (pure_loadN Tryz.isAgg24 Tryz.sizeOf24 (.tmp _ _ rfl) (Nat.le_of_ble_eq_true rfl)) ?_) | (refine APlan.f rfl rfl (fun _ => step_loadN Tryz.isAgg24 Tryz.sizeOf24 (.tmp _ _ rfl) (by first | assumption | exact (by assumption : Heap.le _ _).objs _ _ (by assumption) | exact Heap.objs_set_same _ _ _ | exact (Heap.objs_set_ne _ _ (by assumption)).trans (Heap.objs_set_same _ _ _) | exact (Heap.objs_set_ne _ _ (by assumption)).trans ((Heap.objs_set_ne _ _ (by assumption)).trans (Heap.objs_set_same _ _ _)) | exact (Heap.objs_set_ne _ _ (by assumption)).trans (by assumption)) (Nat.le_of_ble_eq_true rfl)) ?_)
          first | (refine APlan.p rfl rfl (pure_fieldI Tryz.underlying24 rfl Tryz.sizeOf9 (.tmp _ _ rfl)) ?_) | (refine APlan.p rfl rfl (pure_field Tryz.underlying24 rfl Tryz.sizeOf9 (.tmp _ _ rfl)) ?_)
          first | (refine APlan.p rfl rfl (pure_load1 Tryz.isAgg9 (.tmp _ _ rfl)) ?_) | (refine APlan.f rfl rfl (fun _ => step_load1 Tryz.isAgg9 (.tmp _ _ rfl) (by first | assumption | exact (by assumption : Heap.le _ _).objs _ _ (by assumption) | exact Heap.objs_set_same _ _ _ | exact (Heap.objs_set_ne _ _ (by assumption)).trans (Heap.objs_set_same _ _ _) | exact (Heap.objs_set_ne _ _ (by assumption)).trans ((Heap.objs_set_ne _ _ (by assumption)).trans (Heap.objs_set_same _ _ _)) | exact (Heap.objs_set_ne _ _ (by assumption)).trans (by assumption)) rfl) ?_)
          refine APlan.f rfl rfl (fun _ => step_call0 Tryz.call10 (.cons (.tmp _ _ rfl) .nil) (vText_calls _ (by assumption) _)) ?_
          refine APlan.p rfl rfl (pure_eqlA Tryz.eqGuardType24 (.tmp _ _ rfl) (.tmp _ _ rfl) (eqVal v (TextV v.text))) ?_
          refine APlan.p rfl rfl (pure_assign (.tmp _ _ rfl)) ?_
          refine APlan.nil ?_
          refine Next.go ?_
          refine AWP.ret ?_
          refine Block.rt ?_
          refine Next.rt ?_
          -- ret 3
          refine Ret.go (.cons (.tmp _ _ rfl) .nil) _ (Heap.le.refl _) ?_
          refine ⟨?_, rfl⟩
          simp only [packed, RightV]
          first | rw [if_pos (by omega)] | rw [if_neg (by omega), if_pos (by omega)] | rw [if_neg (by omega), if_neg (by omega), if_pos (by omega)] | rw [if_neg (by omega), if_neg (by omega), if_neg (by omega), if_pos (by omega)] | rw [if_neg (by omega), if_neg (by omega), if_neg (by omega), if_neg (by omega), if_pos (by omega)] | rw [if_neg (by omega), if_neg (by omega), if_neg (by omega), if_neg (by omega), if_neg (by omega)]
          first | done | rfl | (rw [hg38]; simp)
        · try simp only [decide_eq_false_iff_not] at hc24
          refine AWP.seq ?_
          -- region 10
          refine AWP.region ?_
          refine AList.p rfl (pure_eql (.tmp _ _ rfl) ev_int) ?_
          refine AList.p rfl (pure_assign (.tmp _ _ rfl)) ?_
          refine AList.nil ?_
          refine Next.go ?_
          -- c4
          refine AWP.cond (.tmp _ _ rfl) (fun hc31 => ?_) (fun hc31 => ?_)
          · try simp only [decide_eq_true_eq] at hc31
            refine AWP.seq ?_
            -- region 11
            refine AWP.draw [(0, true), (1, true), (2, true), (3, true), (4, true), (5, true), (6, true), (7, true), (8, true), (9, true), (10, true), (11, true)] rfl (by decide +kernel) ?_
            first | (refine APlan.p rfl rfl (pure_loadN Tryz.isAgg24 Tryz.sizeOf24 (.tmp _ _ rfl) (Nat.le_of_ble_eq_true rfl)) ?_) | (refine APlan.f rfl rfl (fun _ => step_loadN Tryz.isAgg24 Tryz.sizeOf24 (.tmp _ _ rfl) (by first | assumption | exact (by assumption : Heap.le _ _).objs _ _ (by assumption) | exact Heap.objs_set_same _ _ _ | exact (Heap.objs_set_ne _ _ (by assumption)).trans (Heap.objs_set_same _ _ _) | exact (Heap.objs_set_ne _ _ (by assumption)).trans ((Heap.objs_set_ne _ _ (by assumption)).trans (Heap.objs_set_same _ _ _)) | exact (Heap.objs_set_ne _ _ (by assumption)).trans (by assumption)) (Nat.le_of_ble_eq_true rfl)) ?_)
            first | (refine APlan.p rfl rfl (pure_fieldI Tryz.underlying24 rfl Tryz.sizeOf3 (.tmp _ _ rfl)) ?_) | (refine APlan.p rfl rfl (pure_field Tryz.underlying24 rfl Tryz.sizeOf3 (.tmp _ _ rfl)) ?_)
            first | (refine APlan.p rfl rfl (pure_load1 Tryz.isAgg3 (.tmp _ _ rfl)) ?_) | (refine APlan.f rfl rfl (fun _ => step_load1 Tryz.isAgg3 (.tmp _ _ rfl) (by first | assumption | exact (by assumption : Heap.le _ _).objs _ _ (by assumption) | exact Heap.objs_set_same _ _ _ | exact (Heap.objs_set_ne _ _ (by assumption)).trans (Heap.objs_set_same _ _ _) | exact (Heap.objs_set_ne _ _ (by assumption)).trans ((Heap.objs_set_ne _ _ (by assumption)).trans (Heap.objs_set_same _ _ _)) | exact (Heap.objs_set_ne _ _ (by assumption)).trans (by assumption)) rfl) ?_)
            refine APlan.f rfl rfl (fun _ => step_call0 Tryz.call14 (.cons (.tmp _ _ rfl) .nil) (vFail_calls _ _)) ?_
            refine APlan.p rfl rfl (pure_eqlA Tryz.eqGuardType24 (.tmp _ _ rfl) (.tmp _ _ rfl) (eqVal v (FailV v.fail))) ?_
            refine APlan.p rfl rfl (pure_move (.tmp _ _ rfl)) ?_
            -- the guard in slot 38
            refine bool_casesP (t := 38) rfl (fun hg38 => ?_) (fun hg38 => ?_)
            · first | (refine APlan.gp rfl rfl rfl rfl (by first | rfl | assumption) (pure_fieldI Tryz.underlying24 rfl Tryz.sizeOf3 (.tmp _ _ rfl)) ?_) | (refine APlan.gp rfl rfl rfl rfl (by first | rfl | assumption) (pure_field Tryz.underlying24 rfl Tryz.sizeOf3 (.tmp _ _ rfl)) ?_)
              first | (refine APlan.gp rfl rfl rfl rfl (by first | rfl | assumption) (pure_load1 Tryz.isAgg3 (.tmp _ _ rfl)) ?_) | (refine APlan.gf rfl rfl rfl rfl (by first | rfl | assumption) (fun _ => step_load1 Tryz.isAgg3 (.tmp _ _ rfl) (by first | assumption | exact (by assumption : Heap.le _ _).objs _ _ (by assumption) | exact Heap.objs_set_same _ _ _ | exact (Heap.objs_set_ne _ _ (by assumption)).trans (Heap.objs_set_same _ _ _) | exact (Heap.objs_set_ne _ _ (by assumption)).trans ((Heap.objs_set_ne _ _ (by assumption)).trans (Heap.objs_set_same _ _ _)) | exact (Heap.objs_set_ne _ _ (by assumption)).trans (by assumption)) rfl) ?_)
              refine APlan.gf rfl rfl rfl rfl (by first | rfl | assumption) (fun _ => step_call0 Tryz.call26 (.cons (.tmp _ _ rfl) .nil) (FailName_calls _ _)) ?_
              refine APlan.gp rfl rfl rfl rfl (by first | rfl | assumption) (pure_neqStr (.tmp _ _ rfl) (ev_str rfl)) ?_
              refine APlan.p rfl rfl (pure_pickT (.tmp _ _ rfl) (by first | rfl | assumption) (.tmp _ _ rfl)) ?_
              refine APlan.p rfl rfl (pure_assign (.tmp _ _ rfl)) ?_
              refine APlan.nil ?_
              refine Next.go ?_
              refine AWP.ret ?_
              refine Block.rt ?_
              refine Next.rt ?_
              -- ret 4
              refine Ret.go (.cons (.tmp _ _ rfl) .nil) _ (Heap.le.refl _) ?_
              refine ⟨?_, rfl⟩
              simp only [packed, RightV]
              first | rw [if_pos (by omega)] | rw [if_neg (by omega), if_pos (by omega)] | rw [if_neg (by omega), if_neg (by omega), if_pos (by omega)] | rw [if_neg (by omega), if_neg (by omega), if_neg (by omega), if_pos (by omega)] | rw [if_neg (by omega), if_neg (by omega), if_neg (by omega), if_neg (by omega), if_pos (by omega)] | rw [if_neg (by omega), if_neg (by omega), if_neg (by omega), if_neg (by omega), if_neg (by omega)]
              first | done | rfl | (rw [hg38]; simp)
            · refine APlan.gn rfl rfl rfl rfl (by first | rfl | assumption) ?_
              refine APlan.gn rfl rfl rfl rfl (by first | rfl | assumption) ?_
              refine APlan.gn rfl rfl rfl rfl (by first | rfl | assumption) ?_
              refine APlan.gn rfl rfl rfl rfl (by first | rfl | assumption) ?_
              refine APlan.p rfl rfl (pure_pickF (.tmp _ _ rfl) (by first | rfl | assumption) ev_bool) ?_
              refine APlan.p rfl rfl (pure_assign (.tmp _ _ rfl)) ?_
              refine APlan.nil ?_
              refine Next.go ?_
              refine AWP.ret ?_
              refine Block.rt ?_
              refine Next.rt ?_
              -- ret 5
              refine Ret.go (.cons (.tmp _ _ rfl) .nil) _ (Heap.le.refl _) ?_
              refine ⟨?_, rfl⟩
              simp only [packed, RightV]
              first | rw [if_pos (by omega)] | rw [if_neg (by omega), if_pos (by omega)] | rw [if_neg (by omega), if_neg (by omega), if_pos (by omega)] | rw [if_neg (by omega), if_neg (by omega), if_neg (by omega), if_pos (by omega)] | rw [if_neg (by omega), if_neg (by omega), if_neg (by omega), if_neg (by omega), if_pos (by omega)] | rw [if_neg (by omega), if_neg (by omega), if_neg (by omega), if_neg (by omega), if_neg (by omega)]
              first | done | rfl | (rw [hg38]; simp)
          · try simp only [decide_eq_false_iff_not] at hc31
            refine AWP.skip ?_
            refine Block.go ?_
            refine Next.go ?_
            refine AWP.seq ?_
            -- region 12
            refine AWP.region ?_
            refine AList.p rfl (pure_assign ev_bool) ?_
            refine AList.nil ?_
            refine Next.go ?_
            refine AWP.ret ?_
            -- ret 6
            refine Ret.go (.cons (.tmp _ _ rfl) .nil) _ (Heap.le.refl _) ?_
            refine ⟨?_, rfl⟩
            simp only [packed, RightV]
            first | rw [if_pos (by omega)] | rw [if_neg (by omega), if_pos (by omega)] | rw [if_neg (by omega), if_neg (by omega), if_pos (by omega)] | rw [if_neg (by omega), if_neg (by omega), if_neg (by omega), if_pos (by omega)] | rw [if_neg (by omega), if_neg (by omega), if_neg (by omega), if_neg (by omega), if_pos (by omega)] | rw [if_neg (by omega), if_neg (by omega), if_neg (by omega), if_neg (by omega), if_neg (by omega)]
            first | done | rfl | (rw [hg38]; simp)

set_option maxRecDepth 100000 in
theorem rRight_calls (v : Val) (h0 : 0 ≤ v.bits) (h1 : v.bits < 18446744073709551616) (hs : v.text.length ≤ maxLen) (H : Heap) : ACall Tryz.prog 7 [v.av] H (fun y H' => y = .bool (RightR v) ∧ H' = H) := by
  refine ACall.of_body Tryz.func7 rfl Tryz.ntmps7 Tryz.results7 rfl ?_
  refine AWP.seq ?_
  -- region 0
  refine AWP.region ?_
  refine AList.s rfl (step_boxI (.tmp _ _ rfl) (.inr ⟨_, rfl⟩)) ?_
  rintro _ _ ⟨rfl, hH⟩
  obtain rfl := hH.symm
  refine AList.p rfl (pure_assign ev_bool) ?_
  refine AList.nil ?_
  refine Next.go ?_
  refine AWP.seq ?_
  -- region 1
  refine AWP.region ?_
  first | (refine AList.p rfl (pure_fieldI Tryz.underlying24 rfl Tryz.sizeOf3 (.tmp _ _ rfl)) ?_) | (refine AList.p rfl (pure_field Tryz.underlying24 rfl Tryz.sizeOf3 (.tmp _ _ rfl)) ?_)
  first | (refine AList.p rfl (pure_load1 Tryz.isAgg3 (.tmp _ _ rfl)) ?_) | (refine AList.s rfl (step_load1 Tryz.isAgg3 (.tmp _ _ rfl) (by first | assumption | exact (by assumption : Heap.le _ _).objs _ _ (by assumption) | exact Heap.objs_set_same _ _ _ | exact (Heap.objs_set_ne _ _ (by assumption)).trans (Heap.objs_set_same _ _ _) | exact (Heap.objs_set_ne _ _ (by assumption)).trans ((Heap.objs_set_ne _ _ (by assumption)).trans (Heap.objs_set_same _ _ _)) | exact (Heap.objs_set_ne _ _ (by assumption)).trans (by assumption)) rfl) ?_; rintro _ _ ⟨rfl, hH⟩; obtain rfl := hH.symm)
  refine AList.p rfl (pure_build [(0, 1), (1, 1), (2, 1), (3, 1), (4, 1)] Tryz.underlying24 Tryz.zeroValue24 (zr24) rfl (pl24 _ Tryz.underlying24) (.cons (.tmp _ _ rfl) (.inl rfl) .nil) rfl) ?_
  refine AList.s rfl (step_alloc Tryz.zeroValue24 (zr24)) ?_
  rintro _ _ ⟨b3, hb3, rfl, hH⟩
  obtain rfl := hH.symm
  refine AList.s0 (step_store Tryz.sizeOf24 (.tmp _ _ rfl) (.tmp _ _ rfl) rfl rfl (.inr ⟨_, rfl⟩) (by first | assumption | exact (by assumption : Heap.le _ _).objs _ _ (by assumption) | exact Heap.objs_set_same _ _ _ | exact (Heap.objs_set_ne _ _ (by assumption)).trans (Heap.objs_set_same _ _ _) | exact (Heap.objs_set_ne _ _ (by assumption)).trans ((Heap.objs_set_ne _ _ (by assumption)).trans (Heap.objs_set_same _ _ _)) | exact (Heap.objs_set_ne _ _ (by assumption)).trans (by assumption)) (Nat.le_of_ble_eq_true rfl)) ?_
  rintro _ _ ⟨rfl, hH⟩
  obtain rfl := hH.symm
  try first | rw [Heap.set_set] | rw [Heap.set_under (by assumption)]
  refine AList.nil ?_
  refine Next.go ?_
  refine AWP.seq ?_
  -- region 2
  refine AWP.region ?_
  first | (refine AList.p rfl (pure_fieldI Tryz.underlying24 rfl Tryz.sizeOf3 (.tmp _ _ rfl)) ?_) | (refine AList.p rfl (pure_field Tryz.underlying24 rfl Tryz.sizeOf3 (.tmp _ _ rfl)) ?_)
  first | (refine AList.p rfl (pure_load1 Tryz.isAgg3 (.tmp _ _ rfl)) ?_) | (refine AList.s rfl (step_load1 Tryz.isAgg3 (.tmp _ _ rfl) (by first | assumption | exact (by assumption : Heap.le _ _).objs _ _ (by assumption) | exact Heap.objs_set_same _ _ _ | exact (Heap.objs_set_ne _ _ (by assumption)).trans (Heap.objs_set_same _ _ _) | exact (Heap.objs_set_ne _ _ (by assumption)).trans ((Heap.objs_set_ne _ _ (by assumption)).trans (Heap.objs_set_same _ _ _)) | exact (Heap.objs_set_ne _ _ (by assumption)).trans (by assumption)) rfl) ?_; rintro _ _ ⟨rfl, hH⟩; obtain rfl := hH.symm)
  refine AList.p rfl (pure_eql (.tmp _ _ rfl) ev_int) ?_
  refine AList.p rfl (pure_assign (.tmp _ _ rfl)) ?_
  refine AList.nil ?_
  refine Next.go ?_
  refine AWP.seq ?_
  refine AWP.seq ?_
  -- region 3
  refine AWP.region ?_
  first | (refine AList.p rfl (pure_fieldI Tryz.underlying24 rfl Tryz.sizeOf3 (.tmp _ _ rfl)) ?_) | (refine AList.p rfl (pure_field Tryz.underlying24 rfl Tryz.sizeOf3 (.tmp _ _ rfl)) ?_)
  first | (refine AList.p rfl (pure_load1 Tryz.isAgg3 (.tmp _ _ rfl)) ?_) | (refine AList.s rfl (step_load1 Tryz.isAgg3 (.tmp _ _ rfl) (by first | assumption | exact (by assumption : Heap.le _ _).objs _ _ (by assumption) | exact Heap.objs_set_same _ _ _ | exact (Heap.objs_set_ne _ _ (by assumption)).trans (Heap.objs_set_same _ _ _) | exact (Heap.objs_set_ne _ _ (by assumption)).trans ((Heap.objs_set_ne _ _ (by assumption)).trans (Heap.objs_set_same _ _ _)) | exact (Heap.objs_set_ne _ _ (by assumption)).trans (by assumption)) rfl) ?_; rintro _ _ ⟨rfl, hH⟩; obtain rfl := hH.symm)
  refine AList.nil ?_
  refine Next.go ?_
  refine AWP.block ?_
  refine AWP.seq ?_
  -- region 4
  refine AWP.region ?_
  refine AList.p rfl (pure_eql (.tmp _ _ rfl) ev_int) ?_
  refine AList.p rfl (pure_assign (.tmp _ _ rfl)) ?_
  refine AList.nil ?_
  refine Next.go ?_
  -- c0
  refine AWP.cond (.tmp _ _ rfl) (fun hc13 => ?_) (fun hc13 => ?_)
  · try simp only [decide_eq_true_eq] at hc13
    refine AWP.seq ?_
    -- region 5
    refine AWP.region ?_
    first | (refine AList.p rfl (pure_fieldI Tryz.underlying24 rfl Tryz.sizeOf22 (.tmp _ _ rfl)) ?_) | (refine AList.p rfl (pure_field Tryz.underlying24 rfl Tryz.sizeOf22 (.tmp _ _ rfl)) ?_)
    first | (refine AList.p rfl (pure_load1 Tryz.isAgg22 (.tmp _ _ rfl)) ?_) | (refine AList.s rfl (step_load1 Tryz.isAgg22 (.tmp _ _ rfl) (by first | assumption | exact (by assumption : Heap.le _ _).objs _ _ (by assumption) | exact Heap.objs_set_same _ _ _ | exact (Heap.objs_set_ne _ _ (by assumption)).trans (Heap.objs_set_same _ _ _) | exact (Heap.objs_set_ne _ _ (by assumption)).trans ((Heap.objs_set_ne _ _ (by assumption)).trans (Heap.objs_set_same _ _ _)) | exact (Heap.objs_set_ne _ _ (by assumption)).trans (by assumption)) rfl) ?_; rintro _ _ ⟨rfl, hH⟩; obtain rfl := hH.symm)
    first | (refine AList.p rfl (pure_fieldI Tryz.underlying24 rfl Tryz.sizeOf22 (.tmp _ _ rfl)) ?_) | (refine AList.p rfl (pure_field Tryz.underlying24 rfl Tryz.sizeOf22 (.tmp _ _ rfl)) ?_)
    refine AList.s0 (step_store Tryz.sizeOf22 (.tmp _ _ rfl) (.tmp _ _ rfl) rfl rfl (.inl rfl) (by first | assumption | exact (by assumption : Heap.le _ _).objs _ _ (by assumption) | exact Heap.objs_set_same _ _ _ | exact (Heap.objs_set_ne _ _ (by assumption)).trans (Heap.objs_set_same _ _ _) | exact (Heap.objs_set_ne _ _ (by assumption)).trans ((Heap.objs_set_ne _ _ (by assumption)).trans (Heap.objs_set_same _ _ _)) | exact (Heap.objs_set_ne _ _ (by assumption)).trans (by assumption)) (Nat.le_of_ble_eq_true rfl)) ?_
    rintro _ _ ⟨rfl, hH⟩
    obtain rfl := hH.symm
    try first | rw [Heap.set_set] | rw [Heap.set_under (by assumption)]
    refine AList.nil ?_
    refine Next.go ?_
    -- region 6
    refine AWP.region ?_
    first | (refine AList.p rfl (pure_fieldI Tryz.underlying24 rfl Tryz.sizeOf22 (.tmp _ _ rfl)) ?_) | (refine AList.p rfl (pure_field Tryz.underlying24 rfl Tryz.sizeOf22 (.tmp _ _ rfl)) ?_)
    first | (refine AList.p rfl (pure_load1 Tryz.isAgg22 (.tmp _ _ rfl)) ?_) | (refine AList.s rfl (step_load1 Tryz.isAgg22 (.tmp _ _ rfl) (by first | assumption | exact (by assumption : Heap.le _ _).objs _ _ (by assumption) | exact Heap.objs_set_same _ _ _ | exact (Heap.objs_set_ne _ _ (by assumption)).trans (Heap.objs_set_same _ _ _) | exact (Heap.objs_set_ne _ _ (by assumption)).trans ((Heap.objs_set_ne _ _ (by assumption)).trans (Heap.objs_set_same _ _ _)) | exact (Heap.objs_set_ne _ _ (by assumption)).trans (by assumption)) rfl) ?_; rintro _ _ ⟨rfl, hH⟩; obtain rfl := hH.symm)
    refine AList.s rfl (step_call0 Tryz.call27 (.cons (.tmp _ _ rfl) .nil) (refKind_calls _ (by omega) (by omega) _)) ?_
    rintro _ _ ⟨rfl, hH⟩
    obtain rfl := hH.symm
    refine AList.p rfl (pure_lss (.tmp _ _ rfl) ev_int) ?_
    refine AList.p rfl (pure_assign (.tmp _ _ rfl)) ?_
    refine AList.nil ?_
    refine Block.go ?_
    refine Next.go ?_
    refine AWP.seq ?_
    -- region 16
    refine AWP.region ?_
    refine AList.p rfl (pure_move (.tmp _ _ rfl)) ?_
    refine AList.p rfl (pure_move (.tmp _ _ rfl)) ?_
    -- the guard in slot 50
    refine bool_casesL (t := 50) rfl (fun hg50 => ?_) (fun hg50 => ?_)
    · have hh50 := hg50; try simp only [decide_eq_true_eq] at hh50
      first | (refine AList.gp rfl rfl rfl (by first | rfl | assumption) (pure_loadN Tryz.isAgg24 Tryz.sizeOf24 (.tmp _ _ rfl) (Nat.le_of_ble_eq_true rfl)) ?_) | (refine AList.gs rfl rfl rfl (by first | rfl | assumption) (step_loadN Tryz.isAgg24 Tryz.sizeOf24 (.tmp _ _ rfl) (by first | assumption | exact (by assumption : Heap.le _ _).objs _ _ (by assumption) | exact Heap.objs_set_same _ _ _ | exact (Heap.objs_set_ne _ _ (by assumption)).trans (Heap.objs_set_same _ _ _) | exact (Heap.objs_set_ne _ _ (by assumption)).trans ((Heap.objs_set_ne _ _ (by assumption)).trans (Heap.objs_set_same _ _ _)) | exact (Heap.objs_set_ne _ _ (by assumption)).trans (by assumption)) (Nat.le_of_ble_eq_true rfl)) ?_; rintro _ _ ⟨rfl, hH⟩; obtain rfl := hH.symm)
      first | (refine AList.gp rfl rfl rfl (by first | rfl | assumption) (pure_loadN Tryz.isAgg24 Tryz.sizeOf24 (.tmp _ _ rfl) (Nat.le_of_ble_eq_true rfl)) ?_) | (refine AList.gs rfl rfl rfl (by first | rfl | assumption) (step_loadN Tryz.isAgg24 Tryz.sizeOf24 (.tmp _ _ rfl) (by first | assumption | exact (by assumption : Heap.le _ _).objs _ _ (by assumption) | exact Heap.objs_set_same _ _ _ | exact (Heap.objs_set_ne _ _ (by assumption)).trans (Heap.objs_set_same _ _ _) | exact (Heap.objs_set_ne _ _ (by assumption)).trans ((Heap.objs_set_ne _ _ (by assumption)).trans (Heap.objs_set_same _ _ _)) | exact (Heap.objs_set_ne _ _ (by assumption)).trans (by assumption)) (Nat.le_of_ble_eq_true rfl)) ?_; rintro _ _ ⟨rfl, hH⟩; obtain rfl := hH.symm)
      refine AList.gp rfl rfl rfl (by first | rfl | assumption) (pure_eqlA Tryz.eqGuardType24 (.tmp _ _ rfl) (.tmp _ _ rfl) (eqVal v (⟨_, _, _, _, _⟩))) ?_
      refine AList.p rfl (pure_pickT (.tmp _ _ rfl) (by first | rfl | assumption) (.tmp _ _ rfl)) ?_
      refine AList.p rfl (pure_assign (.tmp _ _ rfl)) ?_
      refine AList.nil ?_
      refine Next.go ?_
      refine AWP.dropb (by first | exact hb3 | exact Heap.fresh_set hb3 _) ?_
      refine AWP.ret ?_
      -- ret 0
      refine Ret.go (.cons (.tmp _ _ rfl) .nil) _ (Heap.le.refl _) ?_
      refine ⟨?_, rfl⟩
      simp only [packed, RightR]
      first | rw [if_pos (by omega)] | rw [if_neg (by omega), if_pos (by omega)] | rw [if_neg (by omega), if_neg (by omega), if_pos (by omega)] | rw [if_neg (by omega), if_neg (by omega), if_neg (by omega), if_pos (by omega)] | rw [if_neg (by omega), if_neg (by omega), if_neg (by omega), if_neg (by omega), if_pos (by omega)] | rw [if_neg (by omega), if_neg (by omega), if_neg (by omega), if_neg (by omega), if_neg (by omega)]
      first | done | rfl | (rw [decide_eq_true (show KindF v.bits < 3 by omega)]; rfl) | (rw [decide_eq_false (show ¬ KindF v.bits < 3 by omega)]; rfl) | (rw [decide_eq_true (show v.text.length ≤ 1000 by omega)]; rfl) | (rw [decide_eq_false (show ¬ v.text.length ≤ 1000 by omega)]; rfl) | (rw [decide_eq_true (show 1 ≤ v.fail by omega), decide_eq_true (show v.fail ≤ 8 by omega)]; rfl) | (rw [decide_eq_false (show ¬ 1 ≤ v.fail by omega)]; rfl) | (rw [decide_eq_true (show 1 ≤ v.fail by omega), decide_eq_false (show ¬ v.fail ≤ 8 by omega)]; rfl)
    · have hh50 := hg50; try simp only [decide_eq_false_iff_not, Int.not_lt] at hh50
      refine AList.gn rfl rfl rfl (by first | rfl | assumption) ?_
      refine AList.gn rfl rfl rfl (by first | rfl | assumption) ?_
      refine AList.gn rfl rfl rfl (by first | rfl | assumption) ?_
      refine AList.p rfl (pure_pickF (.tmp _ _ rfl) (by first | rfl | assumption) ev_bool) ?_
      refine AList.p rfl (pure_assign (.tmp _ _ rfl)) ?_
      refine AList.nil ?_
      refine Next.go ?_
      refine AWP.dropb (by first | exact hb3 | exact Heap.fresh_set hb3 _) ?_
      refine AWP.ret ?_
      -- ret 1
      refine Ret.go (.cons (.tmp _ _ rfl) .nil) _ (Heap.le.refl _) ?_
      refine ⟨?_, rfl⟩
      simp only [packed, RightR]
      first | rw [if_pos (by omega)] | rw [if_neg (by omega), if_pos (by omega)] | rw [if_neg (by omega), if_neg (by omega), if_pos (by omega)] | rw [if_neg (by omega), if_neg (by omega), if_neg (by omega), if_pos (by omega)] | rw [if_neg (by omega), if_neg (by omega), if_neg (by omega), if_neg (by omega), if_pos (by omega)] | rw [if_neg (by omega), if_neg (by omega), if_neg (by omega), if_neg (by omega), if_neg (by omega)]
      first | done | rfl | (rw [decide_eq_true (show KindF v.bits < 3 by omega)]; rfl) | (rw [decide_eq_false (show ¬ KindF v.bits < 3 by omega)]; rfl) | (rw [decide_eq_true (show v.text.length ≤ 1000 by omega)]; rfl) | (rw [decide_eq_false (show ¬ v.text.length ≤ 1000 by omega)]; rfl) | (rw [decide_eq_true (show 1 ≤ v.fail by omega), decide_eq_true (show v.fail ≤ 8 by omega)]; rfl) | (rw [decide_eq_false (show ¬ 1 ≤ v.fail by omega)]; rfl) | (rw [decide_eq_true (show 1 ≤ v.fail by omega), decide_eq_false (show ¬ v.fail ≤ 8 by omega)]; rfl)
  · try simp only [decide_eq_false_iff_not] at hc13
    refine AWP.seq ?_
    -- region 7
    refine AWP.region ?_
    refine AList.p rfl (pure_eql (.tmp _ _ rfl) ev_int) ?_
    refine AList.p rfl (pure_assign (.tmp _ _ rfl)) ?_
    refine AList.nil ?_
    refine Next.go ?_
    -- c1
    refine AWP.cond (.tmp _ _ rfl) (fun hc22 => ?_) (fun hc22 => ?_)
    · try simp only [decide_eq_true_eq] at hc22
      refine AWP.seq ?_
      -- region 8
      refine AWP.region ?_
      first | (refine AList.p rfl (pure_fieldI Tryz.underlying24 rfl Tryz.sizeOf4 (.tmp _ _ rfl)) ?_) | (refine AList.p rfl (pure_field Tryz.underlying24 rfl Tryz.sizeOf4 (.tmp _ _ rfl)) ?_)
      first | (refine AList.p rfl (pure_load1 Tryz.isAgg4 (.tmp _ _ rfl)) ?_) | (refine AList.s rfl (step_load1 Tryz.isAgg4 (.tmp _ _ rfl) (by first | assumption | exact (by assumption : Heap.le _ _).objs _ _ (by assumption) | exact Heap.objs_set_same _ _ _ | exact (Heap.objs_set_ne _ _ (by assumption)).trans (Heap.objs_set_same _ _ _) | exact (Heap.objs_set_ne _ _ (by assumption)).trans ((Heap.objs_set_ne _ _ (by assumption)).trans (Heap.objs_set_same _ _ _)) | exact (Heap.objs_set_ne _ _ (by assumption)).trans (by assumption)) rfl) ?_; rintro _ _ ⟨rfl, hH⟩; obtain rfl := hH.symm)
      first | (refine AList.p rfl (pure_fieldI Tryz.underlying24 rfl Tryz.sizeOf4 (.tmp _ _ rfl)) ?_) | (refine AList.p rfl (pure_field Tryz.underlying24 rfl Tryz.sizeOf4 (.tmp _ _ rfl)) ?_)
      refine AList.s0 (step_store Tryz.sizeOf4 (.tmp _ _ rfl) (.tmp _ _ rfl) rfl rfl (.inl rfl) (by first | assumption | exact (by assumption : Heap.le _ _).objs _ _ (by assumption) | exact Heap.objs_set_same _ _ _ | exact (Heap.objs_set_ne _ _ (by assumption)).trans (Heap.objs_set_same _ _ _) | exact (Heap.objs_set_ne _ _ (by assumption)).trans ((Heap.objs_set_ne _ _ (by assumption)).trans (Heap.objs_set_same _ _ _)) | exact (Heap.objs_set_ne _ _ (by assumption)).trans (by assumption)) (Nat.le_of_ble_eq_true rfl)) ?_
      rintro _ _ ⟨rfl, hH⟩
      obtain rfl := hH.symm
      try first | rw [Heap.set_set] | rw [Heap.set_under (by assumption)]
      refine AList.nil ?_
      refine Next.go ?_
      -- region 9
      refine AWP.region ?_
      refine AList.p rfl (pure_assign ev_bool) ?_
      refine AList.nil ?_
      refine Block.go ?_
      refine Next.go ?_
      refine AWP.seq ?_
      -- region 16
      refine AWP.region ?_
      refine AList.p rfl (pure_move (.tmp _ _ rfl)) ?_
      refine AList.p rfl (pure_move (.tmp _ _ rfl)) ?_
      first | (refine AList.gp rfl rfl rfl (by first | rfl | assumption) (pure_loadN Tryz.isAgg24 Tryz.sizeOf24 (.tmp _ _ rfl) (Nat.le_of_ble_eq_true rfl)) ?_) | (refine AList.gs rfl rfl rfl (by first | rfl | assumption) (step_loadN Tryz.isAgg24 Tryz.sizeOf24 (.tmp _ _ rfl) (by first | assumption | exact (by assumption : Heap.le _ _).objs _ _ (by assumption) | exact Heap.objs_set_same _ _ _ | exact (Heap.objs_set_ne _ _ (by assumption)).trans (Heap.objs_set_same _ _ _) | exact (Heap.objs_set_ne _ _ (by assumption)).trans ((Heap.objs_set_ne _ _ (by assumption)).trans (Heap.objs_set_same _ _ _)) | exact (Heap.objs_set_ne _ _ (by assumption)).trans (by assumption)) (Nat.le_of_ble_eq_true rfl)) ?_; rintro _ _ ⟨rfl, hH⟩; obtain rfl := hH.symm)
      first | (refine AList.gp rfl rfl rfl (by first | rfl | assumption) (pure_loadN Tryz.isAgg24 Tryz.sizeOf24 (.tmp _ _ rfl) (Nat.le_of_ble_eq_true rfl)) ?_) | (refine AList.gs rfl rfl rfl (by first | rfl | assumption) (step_loadN Tryz.isAgg24 Tryz.sizeOf24 (.tmp _ _ rfl) (by first | assumption | exact (by assumption : Heap.le _ _).objs _ _ (by assumption) | exact Heap.objs_set_same _ _ _ | exact (Heap.objs_set_ne _ _ (by assumption)).trans (Heap.objs_set_same _ _ _) | exact (Heap.objs_set_ne _ _ (by assumption)).trans ((Heap.objs_set_ne _ _ (by assumption)).trans (Heap.objs_set_same _ _ _)) | exact (Heap.objs_set_ne _ _ (by assumption)).trans (by assumption)) (Nat.le_of_ble_eq_true rfl)) ?_; rintro _ _ ⟨rfl, hH⟩; obtain rfl := hH.symm)
      refine AList.gp rfl rfl rfl (by first | rfl | assumption) (pure_eqlA Tryz.eqGuardType24 (.tmp _ _ rfl) (.tmp _ _ rfl) (eqVal v (⟨_, _, _, _, _⟩))) ?_
      refine AList.p rfl (pure_pickT (.tmp _ _ rfl) (by first | rfl | assumption) (.tmp _ _ rfl)) ?_
      refine AList.p rfl (pure_assign (.tmp _ _ rfl)) ?_
      refine AList.nil ?_
      refine Next.go ?_
      refine AWP.dropb (by first | exact hb3 | exact Heap.fresh_set hb3 _) ?_
      refine AWP.ret ?_
      -- ret 2
      refine Ret.go (.cons (.tmp _ _ rfl) .nil) _ (Heap.le.refl _) ?_
      refine ⟨?_, rfl⟩
      simp only [packed, RightR]
      first | rw [if_pos (by omega)] | rw [if_neg (by omega), if_pos (by omega)] | rw [if_neg (by omega), if_neg (by omega), if_pos (by omega)] | rw [if_neg (by omega), if_neg (by omega), if_neg (by omega), if_pos (by omega)] | rw [if_neg (by omega), if_neg (by omega), if_neg (by omega), if_neg (by omega), if_pos (by omega)] | rw [if_neg (by omega), if_neg (by omega), if_neg (by omega), if_neg (by omega), if_neg (by omega)]
      first | done | rfl | (rw [decide_eq_true (show KindF v.bits < 3 by omega)]; rfl) | (rw [decide_eq_false (show ¬ KindF v.bits < 3 by omega)]; rfl) | (rw [decide_eq_true (show v.text.length ≤ 1000 by omega)]; rfl) | (rw [decide_eq_false (show ¬ v.text.length ≤ 1000 by omega)]; rfl) | (rw [decide_eq_true (show 1 ≤ v.fail by omega), decide_eq_true (show v.fail ≤ 8 by omega)]; rfl) | (rw [decide_eq_false (show ¬ 1 ≤ v.fail by omega)]; rfl) | (rw [decide_eq_true (show 1 ≤ v.fail by omega), decide_eq_false (show ¬ v.fail ≤ 8 by omega)]; rfl)
    · try simp only [decide_eq_false_iff_not] at hc22
      refine AWP.seq ?_
      -- region 10
      refine AWP.region ?_
      refine AList.p rfl (pure_eql (.tmp _ _ rfl) ev_int) ?_
      refine AList.p rfl (pure_assign (.tmp _ _ rfl)) ?_
      refine AList.nil ?_
      refine Next.go ?_
      -- c2
      refine AWP.cond (.tmp _ _ rfl) (fun hc27 => ?_) (fun hc27 => ?_)
      · try simp only [decide_eq_true_eq] at hc27
        refine AWP.seq ?_
        -- region 11
        refine AWP.region ?_
        first | (refine AList.p rfl (pure_fieldI Tryz.underlying24 rfl Tryz.sizeOf9 (.tmp _ _ rfl)) ?_) | (refine AList.p rfl (pure_field Tryz.underlying24 rfl Tryz.sizeOf9 (.tmp _ _ rfl)) ?_)
        first | (refine AList.p rfl (pure_load1 Tryz.isAgg9 (.tmp _ _ rfl)) ?_) | (refine AList.s rfl (step_load1 Tryz.isAgg9 (.tmp _ _ rfl) (by first | assumption | exact (by assumption : Heap.le _ _).objs _ _ (by assumption) | exact Heap.objs_set_same _ _ _ | exact (Heap.objs_set_ne _ _ (by assumption)).trans (Heap.objs_set_same _ _ _) | exact (Heap.objs_set_ne _ _ (by assumption)).trans ((Heap.objs_set_ne _ _ (by assumption)).trans (Heap.objs_set_same _ _ _)) | exact (Heap.objs_set_ne _ _ (by assumption)).trans (by assumption)) rfl) ?_; rintro _ _ ⟨rfl, hH⟩; obtain rfl := hH.symm)
        first | (refine AList.p rfl (pure_fieldI Tryz.underlying24 rfl Tryz.sizeOf9 (.tmp _ _ rfl)) ?_) | (refine AList.p rfl (pure_field Tryz.underlying24 rfl Tryz.sizeOf9 (.tmp _ _ rfl)) ?_)
        refine AList.s0 (step_store Tryz.sizeOf9 (.tmp _ _ rfl) (.tmp _ _ rfl) rfl rfl (.inl rfl) (by first | assumption | exact (by assumption : Heap.le _ _).objs _ _ (by assumption) | exact Heap.objs_set_same _ _ _ | exact (Heap.objs_set_ne _ _ (by assumption)).trans (Heap.objs_set_same _ _ _) | exact (Heap.objs_set_ne _ _ (by assumption)).trans ((Heap.objs_set_ne _ _ (by assumption)).trans (Heap.objs_set_same _ _ _)) | exact (Heap.objs_set_ne _ _ (by assumption)).trans (by assumption)) (Nat.le_of_ble_eq_true rfl)) ?_
        rintro _ _ ⟨rfl, hH⟩
        obtain rfl := hH.symm
        try first | rw [Heap.set_set] | rw [Heap.set_under (by assumption)]
        refine AList.nil ?_
        refine Next.go ?_
        -- region 12
        refine AWP.region ?_
        first | (refine AList.p rfl (pure_fieldI Tryz.underlying24 rfl Tryz.sizeOf9 (.tmp _ _ rfl)) ?_) | (refine AList.p rfl (pure_field Tryz.underlying24 rfl Tryz.sizeOf9 (.tmp _ _ rfl)) ?_)
        first | (refine AList.p rfl (pure_load1 Tryz.isAgg9 (.tmp _ _ rfl)) ?_) | (refine AList.s rfl (step_load1 Tryz.isAgg9 (.tmp _ _ rfl) (by first | assumption | exact (by assumption : Heap.le _ _).objs _ _ (by assumption) | exact Heap.objs_set_same _ _ _ | exact (Heap.objs_set_ne _ _ (by assumption)).trans (Heap.objs_set_same _ _ _) | exact (Heap.objs_set_ne _ _ (by assumption)).trans ((Heap.objs_set_ne _ _ (by assumption)).trans (Heap.objs_set_same _ _ _)) | exact (Heap.objs_set_ne _ _ (by assumption)).trans (by assumption)) rfl) ?_; rintro _ _ ⟨rfl, hH⟩; obtain rfl := hH.symm)
        refine AList.p rfl (pure_lenStr Tryz.underlying9 (.tmp _ _ rfl)) ?_
        refine AList.p rfl (pure_leq (.tmp _ _ rfl) ev_int) ?_
        refine AList.p rfl (pure_assign (.tmp _ _ rfl)) ?_
        refine AList.nil ?_
        refine Block.go ?_
        refine Next.go ?_
        refine AWP.seq ?_
        -- region 16
        refine AWP.region ?_
        refine AList.p rfl (pure_move (.tmp _ _ rfl)) ?_
        refine AList.p rfl (pure_move (.tmp _ _ rfl)) ?_
        -- the guard in slot 50
        refine bool_casesL (t := 50) rfl (fun hg50 => ?_) (fun hg50 => ?_)
        · have hh50 := hg50; try simp only [decide_eq_true_eq] at hh50
          first | (refine AList.gp rfl rfl rfl (by first | rfl | assumption) (pure_loadN Tryz.isAgg24 Tryz.sizeOf24 (.tmp _ _ rfl) (Nat.le_of_ble_eq_true rfl)) ?_) | (refine AList.gs rfl rfl rfl (by first | rfl | assumption) (step_loadN Tryz.isAgg24 Tryz.sizeOf24 (.tmp _ _ rfl) (by first | assumption | exact (by assumption : Heap.le _ _).objs _ _ (by assumption) | exact Heap.objs_set_same _ _ _ | exact (Heap.objs_set_ne _ _ (by assumption)).trans (Heap.objs_set_same _ _ _) | exact (Heap.objs_set_ne _ _ (by assumption)).trans ((Heap.objs_set_ne _ _ (by assumption)).trans (Heap.objs_set_same _ _ _)) | exact (Heap.objs_set_ne _ _ (by assumption)).trans (by assumption)) (Nat.le_of_ble_eq_true rfl)) ?_; rintro _ _ ⟨rfl, hH⟩; obtain rfl := hH.symm)
          first | (refine AList.gp rfl rfl rfl (by first | rfl | assumption) (pure_loadN Tryz.isAgg24 Tryz.sizeOf24 (.tmp _ _ rfl) (Nat.le_of_ble_eq_true rfl)) ?_) | (refine AList.gs rfl rfl rfl (by first | rfl | assumption) (step_loadN Tryz.isAgg24 Tryz.sizeOf24 (.tmp _ _ rfl) (by first | assumption | exact (by assumption : Heap.le _ _).objs _ _ (by assumption) | exact Heap.objs_set_same _ _ _ | exact (Heap.objs_set_ne _ _ (by assumption)).trans (Heap.objs_set_same _ _ _) | exact (Heap.objs_set_ne _ _ (by assumption)).trans ((Heap.objs_set_ne _ _ (by assumption)).trans (Heap.objs_set_same _ _ _)) | exact (Heap.objs_set_ne _ _ (by assumption)).trans (by assumption)) (Nat.le_of_ble_eq_true rfl)) ?_; rintro _ _ ⟨rfl, hH⟩; obtain rfl := hH.symm)
          refine AList.gp rfl rfl rfl (by first | rfl | assumption) (pure_eqlA Tryz.eqGuardType24 (.tmp _ _ rfl) (.tmp _ _ rfl) (eqVal v (⟨_, _, _, _, _⟩))) ?_
          refine AList.p rfl (pure_pickT (.tmp _ _ rfl) (by first | rfl | assumption) (.tmp _ _ rfl)) ?_
          refine AList.p rfl (pure_assign (.tmp _ _ rfl)) ?_
          refine AList.nil ?_
          refine Next.go ?_
          refine AWP.dropb (by first | exact hb3 | exact Heap.fresh_set hb3 _) ?_
          refine AWP.ret ?_
          -- ret 3
          refine Ret.go (.cons (.tmp _ _ rfl) .nil) _ (Heap.le.refl _) ?_
          refine ⟨?_, rfl⟩
          simp only [packed, RightR]
          first | rw [if_pos (by omega)] | rw [if_neg (by omega), if_pos (by omega)] | rw [if_neg (by omega), if_neg (by omega), if_pos (by omega)] | rw [if_neg (by omega), if_neg (by omega), if_neg (by omega), if_pos (by omega)] | rw [if_neg (by omega), if_neg (by omega), if_neg (by omega), if_neg (by omega), if_pos (by omega)] | rw [if_neg (by omega), if_neg (by omega), if_neg (by omega), if_neg (by omega), if_neg (by omega)]
          first | done | rfl | (rw [decide_eq_true (show KindF v.bits < 3 by omega)]; rfl) | (rw [decide_eq_false (show ¬ KindF v.bits < 3 by omega)]; rfl) | (rw [decide_eq_true (show v.text.length ≤ 1000 by omega)]; rfl) | (rw [decide_eq_false (show ¬ v.text.length ≤ 1000 by omega)]; rfl) | (rw [decide_eq_true (show 1 ≤ v.fail by omega), decide_eq_true (show v.fail ≤ 8 by omega)]; rfl) | (rw [decide_eq_false (show ¬ 1 ≤ v.fail by omega)]; rfl) | (rw [decide_eq_true (show 1 ≤ v.fail by omega), decide_eq_false (show ¬ v.fail ≤ 8 by omega)]; rfl)
        · have hh50 := hg50; try simp only [decide_eq_false_iff_not, Int.not_le] at hh50
          refine AList.gn rfl rfl rfl (by first | rfl | assumption) ?_
          refine AList.gn rfl rfl rfl (by first | rfl | assumption) ?_
          refine AList.gn rfl rfl rfl (by first | rfl | assumption) ?_
          refine AList.p rfl (pure_pickF (.tmp _ _ rfl) (by first | rfl | assumption) ev_bool) ?_
          refine AList.p rfl (pure_assign (.tmp _ _ rfl)) ?_
          refine AList.nil ?_
          refine Next.go ?_
          refine AWP.dropb (by first | exact hb3 | exact Heap.fresh_set hb3 _) ?_
          refine AWP.ret ?_
          -- ret 4
          refine Ret.go (.cons (.tmp _ _ rfl) .nil) _ (Heap.le.refl _) ?_
          refine ⟨?_, rfl⟩
          simp only [packed, RightR]
          first | rw [if_pos (by omega)] | rw [if_neg (by omega), if_pos (by omega)] | rw [if_neg (by omega), if_neg (by omega), if_pos (by omega)] | rw [if_neg (by omega), if_neg (by omega), if_neg (by omega), if_pos (by omega)] | rw [if_neg (by omega), if_neg (by omega), if_neg (by omega), if_neg (by omega), if_pos (by omega)] | rw [if_neg (by omega), if_neg (by omega), if_neg (by omega), if_neg (by omega), if_neg (by omega)]
          first | done | rfl | (rw [decide_eq_true (show KindF v.bits < 3 by omega)]; rfl) | (rw [decide_eq_false (show ¬ KindF v.bits < 3 by omega)]; rfl) | (rw [decide_eq_true (show v.text.length ≤ 1000 by omega)]; rfl) | (rw [decide_eq_false (show ¬ v.text.length ≤ 1000 by omega)]; rfl) | (rw [decide_eq_true (show 1 ≤ v.fail by omega), decide_eq_true (show v.fail ≤ 8 by omega)]; rfl) | (rw [decide_eq_false (show ¬ 1 ≤ v.fail by omega)]; rfl) | (rw [decide_eq_true (show 1 ≤ v.fail by omega), decide_eq_false (show ¬ v.fail ≤ 8 by omega)]; rfl)
      · try simp only [decide_eq_false_iff_not] at hc27
        refine AWP.seq ?_
        -- region 13
        refine AWP.region ?_
        refine AList.p rfl (pure_eql (.tmp _ _ rfl) ev_int) ?_
        refine AList.p rfl (pure_assign (.tmp _ _ rfl)) ?_
        refine AList.nil ?_
        refine Next.go ?_
        -- c3
        refine AWP.cond (.tmp _ _ rfl) (fun hc36 => ?_) (fun hc36 => ?_)
        · try simp only [decide_eq_true_eq] at hc36
          refine AWP.seq ?_
          -- region 14
          refine AWP.region ?_
          first | (refine AList.p rfl (pure_fieldI Tryz.underlying24 rfl Tryz.sizeOf3 (.tmp _ _ rfl)) ?_) | (refine AList.p rfl (pure_field Tryz.underlying24 rfl Tryz.sizeOf3 (.tmp _ _ rfl)) ?_)
          first | (refine AList.p rfl (pure_load1 Tryz.isAgg3 (.tmp _ _ rfl)) ?_) | (refine AList.s rfl (step_load1 Tryz.isAgg3 (.tmp _ _ rfl) (by first | assumption | exact (by assumption : Heap.le _ _).objs _ _ (by assumption) | exact Heap.objs_set_same _ _ _ | exact (Heap.objs_set_ne _ _ (by assumption)).trans (Heap.objs_set_same _ _ _) | exact (Heap.objs_set_ne _ _ (by assumption)).trans ((Heap.objs_set_ne _ _ (by assumption)).trans (Heap.objs_set_same _ _ _)) | exact (Heap.objs_set_ne _ _ (by assumption)).trans (by assumption)) rfl) ?_; rintro _ _ ⟨rfl, hH⟩; obtain rfl := hH.symm)
          first | (refine AList.p rfl (pure_fieldI Tryz.underlying24 rfl Tryz.sizeOf3 (.tmp _ _ rfl)) ?_) | (refine AList.p rfl (pure_field Tryz.underlying24 rfl Tryz.sizeOf3 (.tmp _ _ rfl)) ?_)
          refine AList.s0 (step_store Tryz.sizeOf3 (.tmp _ _ rfl) (.tmp _ _ rfl) rfl rfl (.inl rfl) (by first | assumption | exact (by assumption : Heap.le _ _).objs _ _ (by assumption) | exact Heap.objs_set_same _ _ _ | exact (Heap.objs_set_ne _ _ (by assumption)).trans (Heap.objs_set_same _ _ _) | exact (Heap.objs_set_ne _ _ (by assumption)).trans ((Heap.objs_set_ne _ _ (by assumption)).trans (Heap.objs_set_same _ _ _)) | exact (Heap.objs_set_ne _ _ (by assumption)).trans (by assumption)) (Nat.le_of_ble_eq_true rfl)) ?_
          rintro _ _ ⟨rfl, hH⟩
          obtain rfl := hH.symm
          try first | rw [Heap.set_set] | rw [Heap.set_under (by assumption)]
          refine AList.nil ?_
          refine Next.go ?_
          -- region 15
          refine AWP.region ?_
          first | (refine AList.p rfl (pure_fieldI Tryz.underlying24 rfl Tryz.sizeOf3 (.tmp _ _ rfl)) ?_) | (refine AList.p rfl (pure_field Tryz.underlying24 rfl Tryz.sizeOf3 (.tmp _ _ rfl)) ?_)
          first | (refine AList.p rfl (pure_load1 Tryz.isAgg3 (.tmp _ _ rfl)) ?_) | (refine AList.s rfl (step_load1 Tryz.isAgg3 (.tmp _ _ rfl) (by first | assumption | exact (by assumption : Heap.le _ _).objs _ _ (by assumption) | exact Heap.objs_set_same _ _ _ | exact (Heap.objs_set_ne _ _ (by assumption)).trans (Heap.objs_set_same _ _ _) | exact (Heap.objs_set_ne _ _ (by assumption)).trans ((Heap.objs_set_ne _ _ (by assumption)).trans (Heap.objs_set_same _ _ _)) | exact (Heap.objs_set_ne _ _ (by assumption)).trans (by assumption)) rfl) ?_; rintro _ _ ⟨rfl, hH⟩; obtain rfl := hH.symm)
          refine AList.p rfl (pure_geq (.tmp _ _ rfl) ev_int) ?_
          refine AList.p rfl (pure_move (.tmp _ _ rfl)) ?_
          -- the guard in slot 44
          refine bool_casesL (t := 44) rfl (fun hg44 => ?_) (fun hg44 => ?_)
          · have hh44 := hg44; try simp only [decide_eq_true_eq] at hh44
            first | (refine AList.gp rfl rfl rfl (by first | rfl | assumption) (pure_fieldI Tryz.underlying24 rfl Tryz.sizeOf3 (.tmp _ _ rfl)) ?_) | (refine AList.gp rfl rfl rfl (by first | rfl | assumption) (pure_field Tryz.underlying24 rfl Tryz.sizeOf3 (.tmp _ _ rfl)) ?_)
            first | (refine AList.gp rfl rfl rfl (by first | rfl | assumption) (pure_load1 Tryz.isAgg3 (.tmp _ _ rfl)) ?_) | (refine AList.gs rfl rfl rfl (by first | rfl | assumption) (step_load1 Tryz.isAgg3 (.tmp _ _ rfl) (by first | assumption | exact (by assumption : Heap.le _ _).objs _ _ (by assumption) | exact Heap.objs_set_same _ _ _ | exact (Heap.objs_set_ne _ _ (by assumption)).trans (Heap.objs_set_same _ _ _) | exact (Heap.objs_set_ne _ _ (by assumption)).trans ((Heap.objs_set_ne _ _ (by assumption)).trans (Heap.objs_set_same _ _ _)) | exact (Heap.objs_set_ne _ _ (by assumption)).trans (by assumption)) rfl) ?_; rintro _ _ ⟨rfl, hH⟩; obtain rfl := hH.symm)
            refine AList.gp rfl rfl rfl (by first | rfl | assumption) (pure_leq (.tmp _ _ rfl) ev_int) ?_
            refine AList.p rfl (pure_pickT (.tmp _ _ rfl) (by first | rfl | assumption) (.tmp _ _ rfl)) ?_
            refine AList.p rfl (pure_assign (.tmp _ _ rfl)) ?_
            refine AList.nil ?_
            refine Block.go ?_
            refine Next.go ?_
            refine AWP.seq ?_
            -- region 16
            refine AWP.region ?_
            refine AList.p rfl (pure_move (.tmp _ _ rfl)) ?_
            refine AList.p rfl (pure_move (.tmp _ _ rfl)) ?_
            -- the guard in slot 50
            refine bool_casesL (t := 50) rfl (fun hg50 => ?_) (fun hg50 => ?_)
            · have hh50 := hg50; try simp only [decide_eq_true_eq] at hh50
              first | (refine AList.gp rfl rfl rfl (by first | rfl | assumption) (pure_loadN Tryz.isAgg24 Tryz.sizeOf24 (.tmp _ _ rfl) (Nat.le_of_ble_eq_true rfl)) ?_) | (refine AList.gs rfl rfl rfl (by first | rfl | assumption) (step_loadN Tryz.isAgg24 Tryz.sizeOf24 (.tmp _ _ rfl) (by first | assumption | exact (by assumption : Heap.le _ _).objs _ _ (by assumption) | exact Heap.objs_set_same _ _ _ | exact (Heap.objs_set_ne _ _ (by assumption)).trans (Heap.objs_set_same _ _ _) | exact (Heap.objs_set_ne _ _ (by assumption)).trans ((Heap.objs_set_ne _ _ (by assumption)).trans (Heap.objs_set_same _ _ _)) | exact (Heap.objs_set_ne _ _ (by assumption)).trans (by assumption)) (Nat.le_of_ble_eq_true rfl)) ?_; rintro _ _ ⟨rfl, hH⟩; obtain rfl := hH.symm)
              first | (refine AList.gp rfl rfl rfl (by first | rfl | assumption) (pure_loadN Tryz.isAgg24 Tryz.sizeOf24 (.tmp _ _ rfl) (Nat.le_of_ble_eq_true rfl)) ?_) | (refine AList.gs rfl rfl rfl (by first | rfl | assumption) (step_loadN Tryz.isAgg24 Tryz.sizeOf24 (.tmp _ _ rfl) (by first | assumption | exact (by assumption : Heap.le _ _).objs _ _ (by assumption) | exact Heap.objs_set_same _ _ _ | exact (Heap.objs_set_ne _ _ (by assumption)).trans (Heap.objs_set_same _ _ _) | exact (Heap.objs_set_ne _ _ (by assumption)).trans ((Heap.objs_set_ne _ _ (by assumption)).trans (Heap.objs_set_same _ _ _)) | exact (Heap.objs_set_ne _ _ (by assumption)).trans (by assumption)) (Nat.le_of_ble_eq_true rfl)) ?_; rintro _ _ ⟨rfl, hH⟩; obtain rfl := hH.symm)
              refine AList.gp rfl rfl rfl (by first | rfl | assumption) (pure_eqlA Tryz.eqGuardType24 (.tmp _ _ rfl) (.tmp _ _ rfl) (eqVal v (⟨_, _, _, _, _⟩))) ?_
              refine AList.p rfl (pure_pickT (.tmp _ _ rfl) (by first | rfl | assumption) (.tmp _ _ rfl)) ?_
              refine AList.p rfl (pure_assign (.tmp _ _ rfl)) ?_
              refine AList.nil ?_
              refine Next.go ?_
              refine AWP.dropb (by first | exact hb3 | exact Heap.fresh_set hb3 _) ?_
              refine AWP.ret ?_
              -- ret 5
              refine Ret.go (.cons (.tmp _ _ rfl) .nil) _ (Heap.le.refl _) ?_
              refine ⟨?_, rfl⟩
              simp only [packed, RightR]
              first | rw [if_pos (by omega)] | rw [if_neg (by omega), if_pos (by omega)] | rw [if_neg (by omega), if_neg (by omega), if_pos (by omega)] | rw [if_neg (by omega), if_neg (by omega), if_neg (by omega), if_pos (by omega)] | rw [if_neg (by omega), if_neg (by omega), if_neg (by omega), if_neg (by omega), if_pos (by omega)] | rw [if_neg (by omega), if_neg (by omega), if_neg (by omega), if_neg (by omega), if_neg (by omega)]
              first | done | rfl | (rw [decide_eq_true (show KindF v.bits < 3 by omega)]; rfl) | (rw [decide_eq_false (show ¬ KindF v.bits < 3 by omega)]; rfl) | (rw [decide_eq_true (show v.text.length ≤ 1000 by omega)]; rfl) | (rw [decide_eq_false (show ¬ v.text.length ≤ 1000 by omega)]; rfl) | (rw [decide_eq_true (show 1 ≤ v.fail by omega), decide_eq_true (show v.fail ≤ 8 by omega)]; rfl) | (rw [decide_eq_false (show ¬ 1 ≤ v.fail by omega)]; rfl) | (rw [decide_eq_true (show 1 ≤ v.fail by omega), decide_eq_false (show ¬ v.fail ≤ 8 by omega)]; rfl)
            · have hh50 := hg50; try simp only [decide_eq_false_iff_not, Int.not_le] at hh50
              refine AList.gn rfl rfl rfl (by first | rfl | assumption) ?_
              refine AList.gn rfl rfl rfl (by first | rfl | assumption) ?_
              refine AList.gn rfl rfl rfl (by first | rfl | assumption) ?_
              refine AList.p rfl (pure_pickF (.tmp _ _ rfl) (by first | rfl | assumption) ev_bool) ?_
              refine AList.p rfl (pure_assign (.tmp _ _ rfl)) ?_
              refine AList.nil ?_
              refine Next.go ?_
              refine AWP.dropb (by first | exact hb3 | exact Heap.fresh_set hb3 _) ?_
              refine AWP.ret ?_
              -- ret 6
              refine Ret.go (.cons (.tmp _ _ rfl) .nil) _ (Heap.le.refl _) ?_
              refine ⟨?_, rfl⟩
              simp only [packed, RightR]
              first | rw [if_pos (by omega)] | rw [if_neg (by omega), if_pos (by omega)] | rw [if_neg (by omega), if_neg (by omega), if_pos (by omega)] | rw [if_neg (by omega), if_neg (by omega), if_neg (by omega), if_pos (by omega)] | rw [if_neg (by omega), if_neg (by omega), if_neg (by omega), if_neg (by omega), if_pos (by omega)] | rw [if_neg (by omega), if_neg (by omega), if_neg (by omega), if_neg (by omega), if_neg (by omega)]
              first | done | rfl | (rw [decide_eq_true (show KindF v.bits < 3 by omega)]; rfl) | (rw [decide_eq_false (show ¬ KindF v.bits < 3 by omega)]; rfl) | (rw [decide_eq_true (show v.text.length ≤ 1000 by omega)]; rfl) | (rw [decide_eq_false (show ¬ v.text.length ≤ 1000 by omega)]; rfl) | (rw [decide_eq_true (show 1 ≤ v.fail by omega), decide_eq_true (show v.fail ≤ 8 by omega)]; rfl) | (rw [decide_eq_false (show ¬ 1 ≤ v.fail by omega)]; rfl) | (rw [decide_eq_true (show 1 ≤ v.fail by omega), decide_eq_false (show ¬ v.fail ≤ 8 by omega)]; rfl)
          · have hh44 := hg44; try simp only [decide_eq_false_iff_not, Int.not_le] at hh44
            refine AList.gn rfl rfl rfl (by first | rfl | assumption) ?_
            refine AList.gn rfl rfl rfl (by first | rfl | assumption) ?_
            refine AList.gn rfl rfl rfl (by first | rfl | assumption) ?_
            refine AList.p rfl (pure_pickF (.tmp _ _ rfl) (by first | rfl | assumption) ev_bool) ?_
            refine AList.p rfl (pure_assign (.tmp _ _ rfl)) ?_
            refine AList.nil ?_
            refine Block.go ?_
            refine Next.go ?_
            refine AWP.seq ?_
            -- region 16
            refine AWP.region ?_
            refine AList.p rfl (pure_move (.tmp _ _ rfl)) ?_
            refine AList.p rfl (pure_move (.tmp _ _ rfl)) ?_
            refine AList.gn rfl rfl rfl (by first | rfl | assumption) ?_
            refine AList.gn rfl rfl rfl (by first | rfl | assumption) ?_
            refine AList.gn rfl rfl rfl (by first | rfl | assumption) ?_
            refine AList.p rfl (pure_pickF (.tmp _ _ rfl) (by first | rfl | assumption) ev_bool) ?_
            refine AList.p rfl (pure_assign (.tmp _ _ rfl)) ?_
            refine AList.nil ?_
            refine Next.go ?_
            refine AWP.dropb (by first | exact hb3 | exact Heap.fresh_set hb3 _) ?_
            refine AWP.ret ?_
            -- ret 7
            refine Ret.go (.cons (.tmp _ _ rfl) .nil) _ (Heap.le.refl _) ?_
            refine ⟨?_, rfl⟩
            simp only [packed, RightR]
            first | rw [if_pos (by omega)] | rw [if_neg (by omega), if_pos (by omega)] | rw [if_neg (by omega), if_neg (by omega), if_pos (by omega)] | rw [if_neg (by omega), if_neg (by omega), if_neg (by omega), if_pos (by omega)] | rw [if_neg (by omega), if_neg (by omega), if_neg (by omega), if_neg (by omega), if_pos (by omega)] | rw [if_neg (by omega), if_neg (by omega), if_neg (by omega), if_neg (by omega), if_neg (by omega)]
            first | done | rfl | (rw [decide_eq_true (show KindF v.bits < 3 by omega)]; rfl) | (rw [decide_eq_false (show ¬ KindF v.bits < 3 by omega)]; rfl) | (rw [decide_eq_true (show v.text.length ≤ 1000 by omega)]; rfl) | (rw [decide_eq_false (show ¬ v.text.length ≤ 1000 by omega)]; rfl) | (rw [decide_eq_true (show 1 ≤ v.fail by omega), decide_eq_true (show v.fail ≤ 8 by omega)]; rfl) | (rw [decide_eq_false (show ¬ 1 ≤ v.fail by omega)]; rfl) | (rw [decide_eq_true (show 1 ≤ v.fail by omega), decide_eq_false (show ¬ v.fail ≤ 8 by omega)]; rfl)
        · try simp only [decide_eq_false_iff_not] at hc36
          refine AWP.skip ?_
          refine Block.go ?_
          refine Next.go ?_
          refine AWP.seq ?_
          -- region 16
          refine AWP.region ?_
          refine AList.p rfl (pure_move (.tmp _ _ rfl)) ?_
          refine AList.p rfl (pure_move (.tmp _ _ rfl)) ?_
          -- the guard in slot 50
          refine bool_casesL (t := 50) rfl (fun hg50 => ?_) (fun hg50 => ?_)
          · have hh50 := hg50; try simp only [decide_eq_true_eq] at hh50
            first | (refine AList.gp rfl rfl rfl (by first | rfl | assumption) (pure_loadN Tryz.isAgg24 Tryz.sizeOf24 (.tmp _ _ rfl) (Nat.le_of_ble_eq_true rfl)) ?_) | (refine AList.gs rfl rfl rfl (by first | rfl | assumption) (step_loadN Tryz.isAgg24 Tryz.sizeOf24 (.tmp _ _ rfl) (by first | assumption | exact (by assumption : Heap.le _ _).objs _ _ (by assumption) | exact Heap.objs_set_same _ _ _ | exact (Heap.objs_set_ne _ _ (by assumption)).trans (Heap.objs_set_same _ _ _) | exact (Heap.objs_set_ne _ _ (by assumption)).trans ((Heap.objs_set_ne _ _ (by assumption)).trans (Heap.objs_set_same _ _ _)) | exact (Heap.objs_set_ne _ _ (by assumption)).trans (by assumption)) (Nat.le_of_ble_eq_true rfl)) ?_; rintro _ _ ⟨rfl, hH⟩; obtain rfl := hH.symm)
            first | (refine AList.gp rfl rfl rfl (by first | rfl | assumption) (pure_loadN Tryz.isAgg24 Tryz.sizeOf24 (.tmp _ _ rfl) (Nat.le_of_ble_eq_true rfl)) ?_) | (refine AList.gs rfl rfl rfl (by first | rfl | assumption) (step_loadN Tryz.isAgg24 Tryz.sizeOf24 (.tmp _ _ rfl) (by first | assumption | exact (by assumption : Heap.le _ _).objs _ _ (by assumption) | exact Heap.objs_set_same _ _ _ | exact (Heap.objs_set_ne _ _ (by assumption)).trans (Heap.objs_set_same _ _ _) | exact (Heap.objs_set_ne _ _ (by assumption)).trans ((Heap.objs_set_ne _ _ (by assumption)).trans (Heap.objs_set_same _ _ _)) | exact (Heap.objs_set_ne _ _ (by assumption)).trans (by assumption)) (Nat.le_of_ble_eq_true rfl)) ?_; rintro _ _ ⟨rfl, hH⟩; obtain rfl := hH.symm)
            refine AList.gp rfl rfl rfl (by first | rfl | assumption) (pure_eqlA Tryz.eqGuardType24 (.tmp _ _ rfl) (.tmp _ _ rfl) (eqVal v (⟨_, _, _, _, _⟩))) ?_
            refine AList.p rfl (pure_pickT (.tmp _ _ rfl) (by first | rfl | assumption) (.tmp _ _ rfl)) ?_
            refine AList.p rfl (pure_assign (.tmp _ _ rfl)) ?_
            refine AList.nil ?_
            refine Next.go ?_
            refine AWP.dropb (by first | exact hb3 | exact Heap.fresh_set hb3 _) ?_
            refine AWP.ret ?_
            -- ret 8
            refine Ret.go (.cons (.tmp _ _ rfl) .nil) _ (Heap.le.refl _) ?_
            refine ⟨?_, rfl⟩
            simp only [packed, RightR]
            first | rw [if_pos (by omega)] | rw [if_neg (by omega), if_pos (by omega)] | rw [if_neg (by omega), if_neg (by omega), if_pos (by omega)] | rw [if_neg (by omega), if_neg (by omega), if_neg (by omega), if_pos (by omega)] | rw [if_neg (by omega), if_neg (by omega), if_neg (by omega), if_neg (by omega), if_pos (by omega)] | rw [if_neg (by omega), if_neg (by omega), if_neg (by omega), if_neg (by omega), if_neg (by omega)]
            first | done | rfl | (rw [decide_eq_true (show KindF v.bits < 3 by omega)]; rfl) | (rw [decide_eq_false (show ¬ KindF v.bits < 3 by omega)]; rfl) | (rw [decide_eq_true (show v.text.length ≤ 1000 by omega)]; rfl) | (rw [decide_eq_false (show ¬ v.text.length ≤ 1000 by omega)]; rfl) | (rw [decide_eq_true (show 1 ≤ v.fail by omega), decide_eq_true (show v.fail ≤ 8 by omega)]; rfl) | (rw [decide_eq_false (show ¬ 1 ≤ v.fail by omega)]; rfl) | (rw [decide_eq_true (show 1 ≤ v.fail by omega), decide_eq_false (show ¬ v.fail ≤ 8 by omega)]; rfl)
          · have hh50 := hg50; try simp only [decide_eq_false_iff_not] at hh50
            refine AList.gn rfl rfl rfl (by first | rfl | assumption) ?_
            refine AList.gn rfl rfl rfl (by first | rfl | assumption) ?_
            refine AList.gn rfl rfl rfl (by first | rfl | assumption) ?_
            refine AList.p rfl (pure_pickF (.tmp _ _ rfl) (by first | rfl | assumption) ev_bool) ?_
            refine AList.p rfl (pure_assign (.tmp _ _ rfl)) ?_
            refine AList.nil ?_
            refine Next.go ?_
            refine AWP.dropb (by first | exact hb3 | exact Heap.fresh_set hb3 _) ?_
            refine AWP.ret ?_
            -- ret 9
            refine Ret.go (.cons (.tmp _ _ rfl) .nil) _ (Heap.le.refl _) ?_
            refine ⟨?_, rfl⟩
            simp only [packed, RightR]
            first | rw [if_pos (by omega)] | rw [if_neg (by omega), if_pos (by omega)] | rw [if_neg (by omega), if_neg (by omega), if_pos (by omega)] | rw [if_neg (by omega), if_neg (by omega), if_neg (by omega), if_pos (by omega)] | rw [if_neg (by omega), if_neg (by omega), if_neg (by omega), if_neg (by omega), if_pos (by omega)] | rw [if_neg (by omega), if_neg (by omega), if_neg (by omega), if_neg (by omega), if_neg (by omega)]
            first | done | rfl | (rw [decide_eq_true (show KindF v.bits < 3 by omega)]; rfl) | (rw [decide_eq_false (show ¬ KindF v.bits < 3 by omega)]; rfl) | (rw [decide_eq_true (show v.text.length ≤ 1000 by omega)]; rfl) | (rw [decide_eq_false (show ¬ v.text.length ≤ 1000 by omega)]; rfl) | (rw [decide_eq_true (show 1 ≤ v.fail by omega), decide_eq_true (show v.fail ≤ 8 by omega)]; rfl) | (rw [decide_eq_false (show ¬ 1 ≤ v.fail by omega)]; rfl) | (rw [decide_eq_true (show 1 ≤ v.fail by omega), decide_eq_false (show ¬ v.fail ≤ 8 by omega)]; rfl)

end Go.Proofs.YtncoklpecffokaaGreatDoor
