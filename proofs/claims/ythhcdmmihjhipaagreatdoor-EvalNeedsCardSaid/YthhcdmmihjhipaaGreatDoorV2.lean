/-
  What is asked of a node: places, levels, names, bareness.
-/
import Derived.Test.YthhcdmmihjhipaaGreatDoorV1
namespace Go.Proofs.YthhcdmmihjhipaaGreatDoor
open Go Go.RowKit

def ndz (b : Int) (t : List UInt8) (i : Bool) (f : Int) (p q : Pt) : AV := .agg [.int .i64 0, .int .u64 b, .str t, .bool i, .int .i64 f, .int .i64 p.c, .int .i64 p.r, .bool p.ac, .bool p.ar, .int .i64 q.c, .int .i64 q.r, .bool q.ac, .bool q.ar, .slice 14 [] .full]
def FailName (n : Int) : List UInt8 := if n = 1 then [35, 78, 85, 76, 76, 33] else if n = 2 then [35, 68, 73, 86, 47, 48, 33] else if n = 3 then [35, 86, 65, 76, 85, 69, 33] else if n = 4 then [35, 82, 69, 70, 33] else if n = 5 then [35, 78, 65, 77, 69, 63] else if n = 6 then [35, 78, 85, 77, 33] else if n = 7 then [35, 78, 47, 65] else if n = 8 then [35, 67, 89, 67, 76, 69, 33] else []
theorem name_some (n : Int) : FailName n = [] ↔ ¬ (1 ≤ n ∧ n ≤ 8) := by
  constructor
  · rintro h ⟨h1, h2⟩
    have : n = 1 ∨ n = 2 ∨ n = 3 ∨ n = 4 ∨ n = 5 ∨ n = 6 ∨ n = 7 ∨ n = 8 := by omega
    rcases this with rfl | rfl | rfl | rfl | rfl | rfl | rfl | rfl <;> exact absurd h (by decide)
  · intro h
    unfold FailName
    rw [if_neg (by omega), if_neg (by omega), if_neg (by omega), if_neg (by omega), if_neg (by omega), if_neg (by omega), if_neg (by omega), if_neg (by omega)]

set_option maxRecDepth 100000 in
theorem cRight_calls (p : Pt) (H : Heap) : ACall Tryz.prog 76 [p.av] H (fun y H' => y = .bool (cellR p) ∧ H' = H) := by
  refine ACall.of_body Tryz.func76 rfl Tryz.ntmps76 Tryz.results76 rfl ?_
  refine AWP.seq ?_
  -- region 0
  refine AWP.region ?_
  refine AList.s rfl (step_boxI (.tmp _ _ rfl) (.inr ⟨_, rfl⟩)) ?_
  rintro _ _ ⟨rfl, hH⟩
  obtain rfl := hH.symm
  refine AList.p rfl (pure_assign ev_bool) ?_
  refine AList.nil ?_
  refine Next.go ?_
  refine AWP.seq ?_
  -- region 1
  refine AWP.region ?_
  first | (refine AList.p rfl (pure_fieldI Tryz.underlying24 rfl Tryz.sizeOf3 (.tmp _ _ rfl)) ?_) | (refine AList.p rfl (pure_field Tryz.underlying24 rfl Tryz.sizeOf3 (.tmp _ _ rfl)) ?_)
  first | (refine AList.p rfl (pure_load1 Tryz.isAgg3 (.tmp _ _ rfl)) ?_) | (refine AList.s rfl (step_load1 Tryz.isAgg3 (.tmp _ _ rfl) (by first | assumption | exact (by assumption : Heap.le _ _).objs _ _ (by assumption) | exact Heap.objs_set_same _ _ _ | exact (Heap.objs_set_ne _ _ (by assumption)).trans (Heap.objs_set_same _ _ _) | exact (Heap.objs_set_ne _ _ (by assumption)).trans ((Heap.objs_set_ne _ _ (by assumption)).trans (Heap.objs_set_same _ _ _)) | exact (Heap.objs_set_ne _ _ (by assumption)).trans (by assumption)) rfl) ?_; rintro _ _ ⟨rfl, hH⟩; obtain rfl := hH.symm)
  refine AList.p rfl (pure_geq (.tmp _ _ rfl) ev_int) ?_
  refine AList.p rfl (pure_move (.tmp _ _ rfl)) ?_
  first | (refine AList.lz1 rfl rfl rfl (fun z => pure_fieldI Tryz.underlying24 rfl Tryz.sizeOf3 (.tmp _ _ rfl)) ?_) | (refine AList.lz1 rfl rfl rfl (fun z => pure_field Tryz.underlying24 rfl Tryz.sizeOf3 (.tmp _ _ rfl)) ?_)
  first | (refine AList.lz1 rfl rfl rfl (fun z => pure_load1 Tryz.isAgg3 (.lz rfl z)) ?_) | (refine AList.ls1 rfl rfl rfl (fun z => step_load1 Tryz.isAgg3 (.lz rfl z) (by first | assumption | exact (by assumption : Heap.le _ _).objs _ _ (by assumption) | exact Heap.objs_set_same _ _ _ | exact (Heap.objs_set_ne _ _ (by assumption)).trans (Heap.objs_set_same _ _ _) | exact (Heap.objs_set_ne _ _ (by assumption)).trans ((Heap.objs_set_ne _ _ (by assumption)).trans (Heap.objs_set_same _ _ _)) | exact (Heap.objs_set_ne _ _ (by assumption)).trans (by assumption)) rfl) ?_)
  refine AList.lz1 rfl rfl rfl (fun z => pure_lss (.lz rfl z) ev_int) ?_
  refine AList.p rfl (pure_pickA (.tmp _ _ rfl) rfl) ?_
  refine AList.p rfl (pure_move (.tmp _ _ rfl)) ?_
  first | (refine AList.lz1 rfl rfl rfl (fun z => pure_fieldI Tryz.underlying24 rfl Tryz.sizeOf3 (.tmp _ _ rfl)) ?_) | (refine AList.lz1 rfl rfl rfl (fun z => pure_field Tryz.underlying24 rfl Tryz.sizeOf3 (.tmp _ _ rfl)) ?_)
  first | (refine AList.lz1 rfl rfl rfl (fun z => pure_load1 Tryz.isAgg3 (.lz rfl z)) ?_) | (refine AList.ls1 rfl rfl rfl (fun z => step_load1 Tryz.isAgg3 (.lz rfl z) (by first | assumption | exact (by assumption : Heap.le _ _).objs _ _ (by assumption) | exact Heap.objs_set_same _ _ _ | exact (Heap.objs_set_ne _ _ (by assumption)).trans (Heap.objs_set_same _ _ _) | exact (Heap.objs_set_ne _ _ (by assumption)).trans ((Heap.objs_set_ne _ _ (by assumption)).trans (Heap.objs_set_same _ _ _)) | exact (Heap.objs_set_ne _ _ (by assumption)).trans (by assumption)) rfl) ?_)
  refine AList.lz1 rfl rfl rfl (fun z => pure_geq (.lz rfl z) ev_int) ?_
  refine AList.p rfl (pure_pickA (.tmp _ _ rfl) rfl) ?_
  refine AList.p rfl (pure_move (.tmp _ _ rfl)) ?_
  first | (refine AList.lz1 rfl rfl rfl (fun z => pure_fieldI Tryz.underlying24 rfl Tryz.sizeOf3 (.tmp _ _ rfl)) ?_) | (refine AList.lz1 rfl rfl rfl (fun z => pure_field Tryz.underlying24 rfl Tryz.sizeOf3 (.tmp _ _ rfl)) ?_)
  first | (refine AList.lz1 rfl rfl rfl (fun z => pure_load1 Tryz.isAgg3 (.lz rfl z)) ?_) | (refine AList.ls1 rfl rfl rfl (fun z => step_load1 Tryz.isAgg3 (.lz rfl z) (by first | assumption | exact (by assumption : Heap.le _ _).objs _ _ (by assumption) | exact Heap.objs_set_same _ _ _ | exact (Heap.objs_set_ne _ _ (by assumption)).trans (Heap.objs_set_same _ _ _) | exact (Heap.objs_set_ne _ _ (by assumption)).trans ((Heap.objs_set_ne _ _ (by assumption)).trans (Heap.objs_set_same _ _ _)) | exact (Heap.objs_set_ne _ _ (by assumption)).trans (by assumption)) rfl) ?_)
  refine AList.lz1 rfl rfl rfl (fun z => pure_lss (.lz rfl z) ev_int) ?_
  refine AList.p rfl (pure_pickA (.tmp _ _ rfl) rfl) ?_
  refine AList.p rfl (pure_assign (.tmp _ _ rfl)) ?_
  refine AList.nil ?_
  refine Next.go ?_
  refine AWP.ret ?_
  -- ret 0
  refine Ret.go (.cons (.tmp _ _ rfl) .nil) _ (Heap.le.refl _) ?_
  refine ⟨?_, rfl⟩
  simp [packed, cellR, Bool.and_assoc]

set_option maxRecDepth 100000 in
theorem rcRight_calls (p : Pt) (H : Heap) : ACall Tryz.prog 96 [p.av] H (fun y H' => y = .bool (cellR p) ∧ H' = H) := by
  refine ACall.of_body Tryz.func96 rfl Tryz.ntmps96 Tryz.results96 rfl ?_
  refine AWP.seq ?_
  -- region 0
  refine AWP.region ?_
  refine AList.s rfl (step_boxI (.tmp _ _ rfl) (.inr ⟨_, rfl⟩)) ?_
  rintro _ _ ⟨rfl, hH⟩
  obtain rfl := hH.symm
  refine AList.p rfl (pure_assign ev_bool) ?_
  refine AList.nil ?_
  refine Next.go ?_
  refine AWP.seq ?_
  -- region 1
  refine AWP.region ?_
  first | (refine AList.p rfl (pure_fieldI Tryz.underlying24 rfl Tryz.sizeOf3 (.tmp _ _ rfl)) ?_) | (refine AList.p rfl (pure_field Tryz.underlying24 rfl Tryz.sizeOf3 (.tmp _ _ rfl)) ?_)
  first | (refine AList.p rfl (pure_load1 Tryz.isAgg3 (.tmp _ _ rfl)) ?_) | (refine AList.s rfl (step_load1 Tryz.isAgg3 (.tmp _ _ rfl) (by first | assumption | exact (by assumption : Heap.le _ _).objs _ _ (by assumption) | exact Heap.objs_set_same _ _ _ | exact (Heap.objs_set_ne _ _ (by assumption)).trans (Heap.objs_set_same _ _ _) | exact (Heap.objs_set_ne _ _ (by assumption)).trans ((Heap.objs_set_ne _ _ (by assumption)).trans (Heap.objs_set_same _ _ _)) | exact (Heap.objs_set_ne _ _ (by assumption)).trans (by assumption)) rfl) ?_; rintro _ _ ⟨rfl, hH⟩; obtain rfl := hH.symm)
  refine AList.p rfl (pure_geq (.tmp _ _ rfl) ev_int) ?_
  refine AList.p rfl (pure_move (.tmp _ _ rfl)) ?_
  first | (refine AList.lz1 rfl rfl rfl (fun z => pure_fieldI Tryz.underlying24 rfl Tryz.sizeOf3 (.tmp _ _ rfl)) ?_) | (refine AList.lz1 rfl rfl rfl (fun z => pure_field Tryz.underlying24 rfl Tryz.sizeOf3 (.tmp _ _ rfl)) ?_)
  first | (refine AList.lz1 rfl rfl rfl (fun z => pure_load1 Tryz.isAgg3 (.lz rfl z)) ?_) | (refine AList.ls1 rfl rfl rfl (fun z => step_load1 Tryz.isAgg3 (.lz rfl z) (by first | assumption | exact (by assumption : Heap.le _ _).objs _ _ (by assumption) | exact Heap.objs_set_same _ _ _ | exact (Heap.objs_set_ne _ _ (by assumption)).trans (Heap.objs_set_same _ _ _) | exact (Heap.objs_set_ne _ _ (by assumption)).trans ((Heap.objs_set_ne _ _ (by assumption)).trans (Heap.objs_set_same _ _ _)) | exact (Heap.objs_set_ne _ _ (by assumption)).trans (by assumption)) rfl) ?_)
  refine AList.lz1 rfl rfl rfl (fun z => pure_lss (.lz rfl z) ev_int) ?_
  refine AList.p rfl (pure_pickA (.tmp _ _ rfl) rfl) ?_
  refine AList.p rfl (pure_move (.tmp _ _ rfl)) ?_
  first | (refine AList.lz1 rfl rfl rfl (fun z => pure_fieldI Tryz.underlying24 rfl Tryz.sizeOf3 (.tmp _ _ rfl)) ?_) | (refine AList.lz1 rfl rfl rfl (fun z => pure_field Tryz.underlying24 rfl Tryz.sizeOf3 (.tmp _ _ rfl)) ?_)
  first | (refine AList.lz1 rfl rfl rfl (fun z => pure_load1 Tryz.isAgg3 (.lz rfl z)) ?_) | (refine AList.ls1 rfl rfl rfl (fun z => step_load1 Tryz.isAgg3 (.lz rfl z) (by first | assumption | exact (by assumption : Heap.le _ _).objs _ _ (by assumption) | exact Heap.objs_set_same _ _ _ | exact (Heap.objs_set_ne _ _ (by assumption)).trans (Heap.objs_set_same _ _ _) | exact (Heap.objs_set_ne _ _ (by assumption)).trans ((Heap.objs_set_ne _ _ (by assumption)).trans (Heap.objs_set_same _ _ _)) | exact (Heap.objs_set_ne _ _ (by assumption)).trans (by assumption)) rfl) ?_)
  refine AList.lz1 rfl rfl rfl (fun z => pure_geq (.lz rfl z) ev_int) ?_
  refine AList.p rfl (pure_pickA (.tmp _ _ rfl) rfl) ?_
  refine AList.p rfl (pure_move (.tmp _ _ rfl)) ?_
  first | (refine AList.lz1 rfl rfl rfl (fun z => pure_fieldI Tryz.underlying24 rfl Tryz.sizeOf3 (.tmp _ _ rfl)) ?_) | (refine AList.lz1 rfl rfl rfl (fun z => pure_field Tryz.underlying24 rfl Tryz.sizeOf3 (.tmp _ _ rfl)) ?_)
  first | (refine AList.lz1 rfl rfl rfl (fun z => pure_load1 Tryz.isAgg3 (.lz rfl z)) ?_) | (refine AList.ls1 rfl rfl rfl (fun z => step_load1 Tryz.isAgg3 (.lz rfl z) (by first | assumption | exact (by assumption : Heap.le _ _).objs _ _ (by assumption) | exact Heap.objs_set_same _ _ _ | exact (Heap.objs_set_ne _ _ (by assumption)).trans (Heap.objs_set_same _ _ _) | exact (Heap.objs_set_ne _ _ (by assumption)).trans ((Heap.objs_set_ne _ _ (by assumption)).trans (Heap.objs_set_same _ _ _)) | exact (Heap.objs_set_ne _ _ (by assumption)).trans (by assumption)) rfl) ?_)
  refine AList.lz1 rfl rfl rfl (fun z => pure_lss (.lz rfl z) ev_int) ?_
  refine AList.p rfl (pure_pickA (.tmp _ _ rfl) rfl) ?_
  refine AList.p rfl (pure_assign (.tmp _ _ rfl)) ?_
  refine AList.nil ?_
  refine Next.go ?_
  refine AWP.ret ?_
  -- ret 0
  refine Ret.go (.cons (.tmp _ _ rfl) .nil) _ (Heap.le.refl _) ?_
  refine ⟨?_, rfl⟩
  simp [packed, cellR, Bool.and_assoc]

set_option maxRecDepth 100000 in
theorem level_calls (s : List UInt8) (H : Heap) : ACall Tryz.prog 40 [.str s] H (fun y H' => y = .int .i64 (lev s) ∧ H' = H) := by
  refine ACall.of_body Tryz.func40 rfl Tryz.ntmps40 Tryz.results40 rfl ?_
  refine AWP.seq ?_
  -- region 0
  refine AWP.region ?_
  refine AList.p rfl (pure_assign ev_int) ?_
  refine AList.nil ?_
  refine Next.go ?_
  refine AWP.seq ?_
  refine AWP.seq ?_
  -- region 1
  refine AWP.region ?_
  refine AList.p rfl (pure_move (.tmp _ _ rfl)) ?_
  refine AList.nil ?_
  refine Next.go ?_
  refine AWP.block ?_
  refine AWP.seq ?_
  refine AWP.seq ?_
  -- region 2
  refine AWP.region ?_
  refine AList.p rfl (pure_eqlStr (.tmp _ _ rfl) (ev_str rfl)) ?_
  refine AList.p rfl (pure_assign (.tmp _ _ rfl)) ?_
  refine AList.nil ?_
  refine Next.go ?_
  -- c0
  refine AWP.cond (.tmp _ _ rfl) (fun hc4 => ?_) (fun hc4 => ?_)
  · try simp only [decide_eq_true_eq] at hc4
    refine AWP.skip ?_
    refine Next.go ?_
    -- c5
    refine AWP.cond_true (.tmp _ _ rfl) (by first | rfl | assumption | exact decide_eq_true (by assumption)) ?_
    refine AWP.seq ?_
    -- region 8
    refine AWP.region ?_
    refine AList.p rfl (pure_assign ev_int) ?_
    refine AList.nil ?_
    refine Next.go ?_
    refine AWP.ret ?_
    refine Block.rt ?_
    refine Next.rt ?_
    -- ret 0
    refine Ret.go (.cons (.tmp _ _ rfl) .nil) _ (Heap.le.refl _) ?_
    refine ⟨?_, rfl⟩
    simp_all [packed, lev]
  · try simp only [decide_eq_false_iff_not] at hc4
    refine AWP.seq ?_
    -- region 3
    refine AWP.region ?_
    refine AList.p rfl (pure_eqlStr (.tmp _ _ rfl) (ev_str rfl)) ?_
    refine AList.p rfl (pure_assign (.tmp _ _ rfl)) ?_
    refine AList.nil ?_
    refine Next.go ?_
    -- c1
    refine AWP.cond (.tmp _ _ rfl) (fun hc4 => ?_) (fun hc4 => ?_)
    · try simp only [decide_eq_true_eq] at hc4
      refine AWP.skip ?_
      refine Next.go ?_
      -- c5
      refine AWP.cond_true (.tmp _ _ rfl) (by first | rfl | assumption | exact decide_eq_true (by assumption)) ?_
      refine AWP.seq ?_
      -- region 8
      refine AWP.region ?_
      refine AList.p rfl (pure_assign ev_int) ?_
      refine AList.nil ?_
      refine Next.go ?_
      refine AWP.ret ?_
      refine Block.rt ?_
      refine Next.rt ?_
      -- ret 1
      refine Ret.go (.cons (.tmp _ _ rfl) .nil) _ (Heap.le.refl _) ?_
      refine ⟨?_, rfl⟩
      simp_all [packed, lev]
    · try simp only [decide_eq_false_iff_not] at hc4
      refine AWP.seq ?_
      -- region 4
      refine AWP.region ?_
      refine AList.p rfl (pure_eqlStr (.tmp _ _ rfl) (ev_str rfl)) ?_
      refine AList.p rfl (pure_assign (.tmp _ _ rfl)) ?_
      refine AList.nil ?_
      refine Next.go ?_
      -- c2
      refine AWP.cond (.tmp _ _ rfl) (fun hc4 => ?_) (fun hc4 => ?_)
      · try simp only [decide_eq_true_eq] at hc4
        refine AWP.skip ?_
        refine Next.go ?_
        -- c5
        refine AWP.cond_true (.tmp _ _ rfl) (by first | rfl | assumption | exact decide_eq_true (by assumption)) ?_
        refine AWP.seq ?_
        -- region 8
        refine AWP.region ?_
        refine AList.p rfl (pure_assign ev_int) ?_
        refine AList.nil ?_
        refine Next.go ?_
        refine AWP.ret ?_
        refine Block.rt ?_
        refine Next.rt ?_
        -- ret 2
        refine Ret.go (.cons (.tmp _ _ rfl) .nil) _ (Heap.le.refl _) ?_
        refine ⟨?_, rfl⟩
        simp_all [packed, lev]
      · try simp only [decide_eq_false_iff_not] at hc4
        refine AWP.seq ?_
        -- region 5
        refine AWP.region ?_
        refine AList.p rfl (pure_eqlStr (.tmp _ _ rfl) (ev_str rfl)) ?_
        refine AList.p rfl (pure_assign (.tmp _ _ rfl)) ?_
        refine AList.nil ?_
        refine Next.go ?_
        -- c3
        refine AWP.cond (.tmp _ _ rfl) (fun hc4 => ?_) (fun hc4 => ?_)
        · try simp only [decide_eq_true_eq] at hc4
          refine AWP.skip ?_
          refine Next.go ?_
          -- c5
          refine AWP.cond_true (.tmp _ _ rfl) (by first | rfl | assumption | exact decide_eq_true (by assumption)) ?_
          refine AWP.seq ?_
          -- region 8
          refine AWP.region ?_
          refine AList.p rfl (pure_assign ev_int) ?_
          refine AList.nil ?_
          refine Next.go ?_
          refine AWP.ret ?_
          refine Block.rt ?_
          refine Next.rt ?_
          -- ret 3
          refine Ret.go (.cons (.tmp _ _ rfl) .nil) _ (Heap.le.refl _) ?_
          refine ⟨?_, rfl⟩
          simp_all [packed, lev]
        · try simp only [decide_eq_false_iff_not] at hc4
          refine AWP.seq ?_
          -- region 6
          refine AWP.region ?_
          refine AList.p rfl (pure_eqlStr (.tmp _ _ rfl) (ev_str rfl)) ?_
          refine AList.p rfl (pure_assign (.tmp _ _ rfl)) ?_
          refine AList.nil ?_
          refine Next.go ?_
          -- c4
          refine AWP.cond (.tmp _ _ rfl) (fun hc4 => ?_) (fun hc4 => ?_)
          · try simp only [decide_eq_true_eq] at hc4
            refine AWP.skip ?_
            refine Next.go ?_
            -- c5
            refine AWP.cond_true (.tmp _ _ rfl) (by first | rfl | assumption | exact decide_eq_true (by assumption)) ?_
            refine AWP.seq ?_
            -- region 8
            refine AWP.region ?_
            refine AList.p rfl (pure_assign ev_int) ?_
            refine AList.nil ?_
            refine Next.go ?_
            refine AWP.ret ?_
            refine Block.rt ?_
            refine Next.rt ?_
            -- ret 4
            refine Ret.go (.cons (.tmp _ _ rfl) .nil) _ (Heap.le.refl _) ?_
            refine ⟨?_, rfl⟩
            simp_all [packed, lev]
          · try simp only [decide_eq_false_iff_not] at hc4
            -- region 7
            refine AWP.region ?_
            refine AList.p rfl (pure_eqlStr (.tmp _ _ rfl) (ev_str rfl)) ?_
            refine AList.p rfl (pure_assign (.tmp _ _ rfl)) ?_
            refine AList.nil ?_
            refine Next.go ?_
            -- c5
            refine AWP.cond (.tmp _ _ rfl) (fun hc4 => ?_) (fun hc4 => ?_)
            · try simp only [decide_eq_true_eq] at hc4
              refine AWP.seq ?_
              -- region 8
              refine AWP.region ?_
              refine AList.p rfl (pure_assign ev_int) ?_
              refine AList.nil ?_
              refine Next.go ?_
              refine AWP.ret ?_
              refine Block.rt ?_
              refine Next.rt ?_
              -- ret 5
              refine Ret.go (.cons (.tmp _ _ rfl) .nil) _ (Heap.le.refl _) ?_
              refine ⟨?_, rfl⟩
              simp_all [packed, lev]
            · try simp only [decide_eq_false_iff_not] at hc4
              refine AWP.seq ?_
              -- region 9
              refine AWP.region ?_
              refine AList.p rfl (pure_eqlStr (.tmp _ _ rfl) (ev_str rfl)) ?_
              refine AList.p rfl (pure_assign (.tmp _ _ rfl)) ?_
              refine AList.nil ?_
              refine Next.go ?_
              -- c6
              refine AWP.cond (.tmp _ _ rfl) (fun hc11 => ?_) (fun hc11 => ?_)
              · try simp only [decide_eq_true_eq] at hc11
                refine AWP.seq ?_
                -- region 10
                refine AWP.region ?_
                refine AList.p rfl (pure_assign ev_int) ?_
                refine AList.nil ?_
                refine Next.go ?_
                refine AWP.ret ?_
                refine Block.rt ?_
                refine Next.rt ?_
                -- ret 6
                refine Ret.go (.cons (.tmp _ _ rfl) .nil) _ (Heap.le.refl _) ?_
                refine ⟨?_, rfl⟩
                simp_all [packed, lev]
              · try simp only [decide_eq_false_iff_not] at hc11
                refine AWP.seq ?_
                refine AWP.seq ?_
                -- region 11
                refine AWP.region ?_
                refine AList.p rfl (pure_eqlStr (.tmp _ _ rfl) (ev_str rfl)) ?_
                refine AList.p rfl (pure_assign (.tmp _ _ rfl)) ?_
                refine AList.nil ?_
                refine Next.go ?_
                -- c7
                refine AWP.cond (.tmp _ _ rfl) (fun hc13 => ?_) (fun hc13 => ?_)
                · try simp only [decide_eq_true_eq] at hc13
                  refine AWP.skip ?_
                  refine Next.go ?_
                  -- c8
                  refine AWP.cond_true (.tmp _ _ rfl) (by first | rfl | assumption | exact decide_eq_true (by assumption)) ?_
                  refine AWP.seq ?_
                  -- region 13
                  refine AWP.region ?_
                  refine AList.p rfl (pure_assign ev_int) ?_
                  refine AList.nil ?_
                  refine Next.go ?_
                  refine AWP.ret ?_
                  refine Block.rt ?_
                  refine Next.rt ?_
                  -- ret 7
                  refine Ret.go (.cons (.tmp _ _ rfl) .nil) _ (Heap.le.refl _) ?_
                  refine ⟨?_, rfl⟩
                  simp_all [packed, lev]
                · try simp only [decide_eq_false_iff_not] at hc13
                  -- region 12
                  refine AWP.region ?_
                  refine AList.p rfl (pure_eqlStr (.tmp _ _ rfl) (ev_str rfl)) ?_
                  refine AList.p rfl (pure_assign (.tmp _ _ rfl)) ?_
                  refine AList.nil ?_
                  refine Next.go ?_
                  -- c8
                  refine AWP.cond (.tmp _ _ rfl) (fun hc13 => ?_) (fun hc13 => ?_)
                  · try simp only [decide_eq_true_eq] at hc13
                    refine AWP.seq ?_
                    -- region 13
                    refine AWP.region ?_
                    refine AList.p rfl (pure_assign ev_int) ?_
                    refine AList.nil ?_
                    refine Next.go ?_
                    refine AWP.ret ?_
                    refine Block.rt ?_
                    refine Next.rt ?_
                    -- ret 8
                    refine Ret.go (.cons (.tmp _ _ rfl) .nil) _ (Heap.le.refl _) ?_
                    refine ⟨?_, rfl⟩
                    simp_all [packed, lev]
                  · try simp only [decide_eq_false_iff_not] at hc13
                    refine AWP.seq ?_
                    refine AWP.seq ?_
                    -- region 14
                    refine AWP.region ?_
                    refine AList.p rfl (pure_eqlStr (.tmp _ _ rfl) (ev_str rfl)) ?_
                    refine AList.p rfl (pure_assign (.tmp _ _ rfl)) ?_
                    refine AList.nil ?_
                    refine Next.go ?_
                    -- c9
                    refine AWP.cond (.tmp _ _ rfl) (fun hc16 => ?_) (fun hc16 => ?_)
                    · try simp only [decide_eq_true_eq] at hc16
                      refine AWP.skip ?_
                      refine Next.go ?_
                      -- c10
                      refine AWP.cond_true (.tmp _ _ rfl) (by first | rfl | assumption | exact decide_eq_true (by assumption)) ?_
                      refine AWP.seq ?_
                      -- region 16
                      refine AWP.region ?_
                      refine AList.p rfl (pure_assign ev_int) ?_
                      refine AList.nil ?_
                      refine Next.go ?_
                      refine AWP.ret ?_
                      refine Block.rt ?_
                      refine Next.rt ?_
                      -- ret 9
                      refine Ret.go (.cons (.tmp _ _ rfl) .nil) _ (Heap.le.refl _) ?_
                      refine ⟨?_, rfl⟩
                      simp_all [packed, lev]
                    · try simp only [decide_eq_false_iff_not] at hc16
                      -- region 15
                      refine AWP.region ?_
                      refine AList.p rfl (pure_eqlStr (.tmp _ _ rfl) (ev_str rfl)) ?_
                      refine AList.p rfl (pure_assign (.tmp _ _ rfl)) ?_
                      refine AList.nil ?_
                      refine Next.go ?_
                      -- c10
                      refine AWP.cond (.tmp _ _ rfl) (fun hc16 => ?_) (fun hc16 => ?_)
                      · try simp only [decide_eq_true_eq] at hc16
                        refine AWP.seq ?_
                        -- region 16
                        refine AWP.region ?_
                        refine AList.p rfl (pure_assign ev_int) ?_
                        refine AList.nil ?_
                        refine Next.go ?_
                        refine AWP.ret ?_
                        refine Block.rt ?_
                        refine Next.rt ?_
                        -- ret 10
                        refine Ret.go (.cons (.tmp _ _ rfl) .nil) _ (Heap.le.refl _) ?_
                        refine ⟨?_, rfl⟩
                        simp_all [packed, lev]
                      · try simp only [decide_eq_false_iff_not] at hc16
                        refine AWP.seq ?_
                        -- region 17
                        refine AWP.region ?_
                        refine AList.p rfl (pure_eqlStr (.tmp _ _ rfl) (ev_str rfl)) ?_
                        refine AList.p rfl (pure_assign (.tmp _ _ rfl)) ?_
                        refine AList.nil ?_
                        refine Next.go ?_
                        -- c11
                        refine AWP.cond (.tmp _ _ rfl) (fun hc19 => ?_) (fun hc19 => ?_)
                        · try simp only [decide_eq_true_eq] at hc19
                          refine AWP.seq ?_
                          -- region 18
                          refine AWP.region ?_
                          refine AList.p rfl (pure_assign ev_int) ?_
                          refine AList.nil ?_
                          refine Next.go ?_
                          refine AWP.ret ?_
                          refine Block.rt ?_
                          refine Next.rt ?_
                          -- ret 11
                          refine Ret.go (.cons (.tmp _ _ rfl) .nil) _ (Heap.le.refl _) ?_
                          refine ⟨?_, rfl⟩
                          simp_all [packed, lev]
                        · try simp only [decide_eq_false_iff_not] at hc19
                          refine AWP.skip ?_
                          refine Block.go ?_
                          refine Next.go ?_
                          refine AWP.seq ?_
                          -- region 19
                          refine AWP.region ?_
                          refine AList.p rfl (pure_assign ev_int) ?_
                          refine AList.nil ?_
                          refine Next.go ?_
                          refine AWP.ret ?_
                          -- ret 12
                          refine Ret.go (.cons (.tmp _ _ rfl) .nil) _ (Heap.le.refl _) ?_
                          refine ⟨?_, rfl⟩
                          simp_all [packed, lev]

set_option maxRecDepth 100000 in
theorem rlevel_calls (s : List UInt8) (H : Heap) : ACall Tryz.prog 97 [.str s] H (fun y H' => y = .int .i64 (lev s) ∧ H' = H) := by
  refine ACall.of_body Tryz.func97 rfl Tryz.ntmps97 Tryz.results97 rfl ?_
  refine AWP.seq ?_
  -- region 0
  refine AWP.region ?_
  refine AList.p rfl (pure_assign ev_int) ?_
  refine AList.nil ?_
  refine Next.go ?_
  refine AWP.seq ?_
  refine AWP.seq ?_
  -- region 1
  refine AWP.region ?_
  refine AList.p rfl (pure_move (.tmp _ _ rfl)) ?_
  refine AList.nil ?_
  refine Next.go ?_
  refine AWP.block ?_
  refine AWP.seq ?_
  refine AWP.seq ?_
  -- region 2
  refine AWP.region ?_
  refine AList.p rfl (pure_eqlStr (.tmp _ _ rfl) (ev_str rfl)) ?_
  refine AList.p rfl (pure_assign (.tmp _ _ rfl)) ?_
  refine AList.nil ?_
  refine Next.go ?_
  -- c0
  refine AWP.cond (.tmp _ _ rfl) (fun hc4 => ?_) (fun hc4 => ?_)
  · try simp only [decide_eq_true_eq] at hc4
    refine AWP.skip ?_
    refine Next.go ?_
    -- c5
    refine AWP.cond_true (.tmp _ _ rfl) (by first | rfl | assumption | exact decide_eq_true (by assumption)) ?_
    refine AWP.seq ?_
    -- region 8
    refine AWP.region ?_
    refine AList.p rfl (pure_assign ev_int) ?_
    refine AList.nil ?_
    refine Next.go ?_
    refine AWP.ret ?_
    refine Block.rt ?_
    refine Next.rt ?_
    -- ret 0
    refine Ret.go (.cons (.tmp _ _ rfl) .nil) _ (Heap.le.refl _) ?_
    refine ⟨?_, rfl⟩
    simp_all [packed, lev]
  · try simp only [decide_eq_false_iff_not] at hc4
    refine AWP.seq ?_
    -- region 3
    refine AWP.region ?_
    refine AList.p rfl (pure_eqlStr (.tmp _ _ rfl) (ev_str rfl)) ?_
    refine AList.p rfl (pure_assign (.tmp _ _ rfl)) ?_
    refine AList.nil ?_
    refine Next.go ?_
    -- c1
    refine AWP.cond (.tmp _ _ rfl) (fun hc4 => ?_) (fun hc4 => ?_)
    · try simp only [decide_eq_true_eq] at hc4
      refine AWP.skip ?_
      refine Next.go ?_
      -- c5
      refine AWP.cond_true (.tmp _ _ rfl) (by first | rfl | assumption | exact decide_eq_true (by assumption)) ?_
      refine AWP.seq ?_
      -- region 8
      refine AWP.region ?_
      refine AList.p rfl (pure_assign ev_int) ?_
      refine AList.nil ?_
      refine Next.go ?_
      refine AWP.ret ?_
      refine Block.rt ?_
      refine Next.rt ?_
      -- ret 1
      refine Ret.go (.cons (.tmp _ _ rfl) .nil) _ (Heap.le.refl _) ?_
      refine ⟨?_, rfl⟩
      simp_all [packed, lev]
    · try simp only [decide_eq_false_iff_not] at hc4
      refine AWP.seq ?_
      -- region 4
      refine AWP.region ?_
      refine AList.p rfl (pure_eqlStr (.tmp _ _ rfl) (ev_str rfl)) ?_
      refine AList.p rfl (pure_assign (.tmp _ _ rfl)) ?_
      refine AList.nil ?_
      refine Next.go ?_
      -- c2
      refine AWP.cond (.tmp _ _ rfl) (fun hc4 => ?_) (fun hc4 => ?_)
      · try simp only [decide_eq_true_eq] at hc4
        refine AWP.skip ?_
        refine Next.go ?_
        -- c5
        refine AWP.cond_true (.tmp _ _ rfl) (by first | rfl | assumption | exact decide_eq_true (by assumption)) ?_
        refine AWP.seq ?_
        -- region 8
        refine AWP.region ?_
        refine AList.p rfl (pure_assign ev_int) ?_
        refine AList.nil ?_
        refine Next.go ?_
        refine AWP.ret ?_
        refine Block.rt ?_
        refine Next.rt ?_
        -- ret 2
        refine Ret.go (.cons (.tmp _ _ rfl) .nil) _ (Heap.le.refl _) ?_
        refine ⟨?_, rfl⟩
        simp_all [packed, lev]
      · try simp only [decide_eq_false_iff_not] at hc4
        refine AWP.seq ?_
        -- region 5
        refine AWP.region ?_
        refine AList.p rfl (pure_eqlStr (.tmp _ _ rfl) (ev_str rfl)) ?_
        refine AList.p rfl (pure_assign (.tmp _ _ rfl)) ?_
        refine AList.nil ?_
        refine Next.go ?_
        -- c3
        refine AWP.cond (.tmp _ _ rfl) (fun hc4 => ?_) (fun hc4 => ?_)
        · try simp only [decide_eq_true_eq] at hc4
          refine AWP.skip ?_
          refine Next.go ?_
          -- c5
          refine AWP.cond_true (.tmp _ _ rfl) (by first | rfl | assumption | exact decide_eq_true (by assumption)) ?_
          refine AWP.seq ?_
          -- region 8
          refine AWP.region ?_
          refine AList.p rfl (pure_assign ev_int) ?_
          refine AList.nil ?_
          refine Next.go ?_
          refine AWP.ret ?_
          refine Block.rt ?_
          refine Next.rt ?_
          -- ret 3
          refine Ret.go (.cons (.tmp _ _ rfl) .nil) _ (Heap.le.refl _) ?_
          refine ⟨?_, rfl⟩
          simp_all [packed, lev]
        · try simp only [decide_eq_false_iff_not] at hc4
          refine AWP.seq ?_
          -- region 6
          refine AWP.region ?_
          refine AList.p rfl (pure_eqlStr (.tmp _ _ rfl) (ev_str rfl)) ?_
          refine AList.p rfl (pure_assign (.tmp _ _ rfl)) ?_
          refine AList.nil ?_
          refine Next.go ?_
          -- c4
          refine AWP.cond (.tmp _ _ rfl) (fun hc4 => ?_) (fun hc4 => ?_)
          · try simp only [decide_eq_true_eq] at hc4
            refine AWP.skip ?_
            refine Next.go ?_
            -- c5
            refine AWP.cond_true (.tmp _ _ rfl) (by first | rfl | assumption | exact decide_eq_true (by assumption)) ?_
            refine AWP.seq ?_
            -- region 8
            refine AWP.region ?_
            refine AList.p rfl (pure_assign ev_int) ?_
            refine AList.nil ?_
            refine Next.go ?_
            refine AWP.ret ?_
            refine Block.rt ?_
            refine Next.rt ?_
            -- ret 4
            refine Ret.go (.cons (.tmp _ _ rfl) .nil) _ (Heap.le.refl _) ?_
            refine ⟨?_, rfl⟩
            simp_all [packed, lev]
          · try simp only [decide_eq_false_iff_not] at hc4
            -- region 7
            refine AWP.region ?_
            refine AList.p rfl (pure_eqlStr (.tmp _ _ rfl) (ev_str rfl)) ?_
            refine AList.p rfl (pure_assign (.tmp _ _ rfl)) ?_
            refine AList.nil ?_
            refine Next.go ?_
            -- c5
            refine AWP.cond (.tmp _ _ rfl) (fun hc4 => ?_) (fun hc4 => ?_)
            · try simp only [decide_eq_true_eq] at hc4
              refine AWP.seq ?_
              -- region 8
              refine AWP.region ?_
              refine AList.p rfl (pure_assign ev_int) ?_
              refine AList.nil ?_
              refine Next.go ?_
              refine AWP.ret ?_
              refine Block.rt ?_
              refine Next.rt ?_
              -- ret 5
              refine Ret.go (.cons (.tmp _ _ rfl) .nil) _ (Heap.le.refl _) ?_
              refine ⟨?_, rfl⟩
              simp_all [packed, lev]
            · try simp only [decide_eq_false_iff_not] at hc4
              refine AWP.seq ?_
              -- region 9
              refine AWP.region ?_
              refine AList.p rfl (pure_eqlStr (.tmp _ _ rfl) (ev_str rfl)) ?_
              refine AList.p rfl (pure_assign (.tmp _ _ rfl)) ?_
              refine AList.nil ?_
              refine Next.go ?_
              -- c6
              refine AWP.cond (.tmp _ _ rfl) (fun hc11 => ?_) (fun hc11 => ?_)
              · try simp only [decide_eq_true_eq] at hc11
                refine AWP.seq ?_
                -- region 10
                refine AWP.region ?_
                refine AList.p rfl (pure_assign ev_int) ?_
                refine AList.nil ?_
                refine Next.go ?_
                refine AWP.ret ?_
                refine Block.rt ?_
                refine Next.rt ?_
                -- ret 6
                refine Ret.go (.cons (.tmp _ _ rfl) .nil) _ (Heap.le.refl _) ?_
                refine ⟨?_, rfl⟩
                simp_all [packed, lev]
              · try simp only [decide_eq_false_iff_not] at hc11
                refine AWP.seq ?_
                refine AWP.seq ?_
                -- region 11
                refine AWP.region ?_
                refine AList.p rfl (pure_eqlStr (.tmp _ _ rfl) (ev_str rfl)) ?_
                refine AList.p rfl (pure_assign (.tmp _ _ rfl)) ?_
                refine AList.nil ?_
                refine Next.go ?_
                -- c7
                refine AWP.cond (.tmp _ _ rfl) (fun hc13 => ?_) (fun hc13 => ?_)
                · try simp only [decide_eq_true_eq] at hc13
                  refine AWP.skip ?_
                  refine Next.go ?_
                  -- c8
                  refine AWP.cond_true (.tmp _ _ rfl) (by first | rfl | assumption | exact decide_eq_true (by assumption)) ?_
                  refine AWP.seq ?_
                  -- region 13
                  refine AWP.region ?_
                  refine AList.p rfl (pure_assign ev_int) ?_
                  refine AList.nil ?_
                  refine Next.go ?_
                  refine AWP.ret ?_
                  refine Block.rt ?_
                  refine Next.rt ?_
                  -- ret 7
                  refine Ret.go (.cons (.tmp _ _ rfl) .nil) _ (Heap.le.refl _) ?_
                  refine ⟨?_, rfl⟩
                  simp_all [packed, lev]
                · try simp only [decide_eq_false_iff_not] at hc13
                  -- region 12
                  refine AWP.region ?_
                  refine AList.p rfl (pure_eqlStr (.tmp _ _ rfl) (ev_str rfl)) ?_
                  refine AList.p rfl (pure_assign (.tmp _ _ rfl)) ?_
                  refine AList.nil ?_
                  refine Next.go ?_
                  -- c8
                  refine AWP.cond (.tmp _ _ rfl) (fun hc13 => ?_) (fun hc13 => ?_)
                  · try simp only [decide_eq_true_eq] at hc13
                    refine AWP.seq ?_
                    -- region 13
                    refine AWP.region ?_
                    refine AList.p rfl (pure_assign ev_int) ?_
                    refine AList.nil ?_
                    refine Next.go ?_
                    refine AWP.ret ?_
                    refine Block.rt ?_
                    refine Next.rt ?_
                    -- ret 8
                    refine Ret.go (.cons (.tmp _ _ rfl) .nil) _ (Heap.le.refl _) ?_
                    refine ⟨?_, rfl⟩
                    simp_all [packed, lev]
                  · try simp only [decide_eq_false_iff_not] at hc13
                    refine AWP.seq ?_
                    refine AWP.seq ?_
                    -- region 14
                    refine AWP.region ?_
                    refine AList.p rfl (pure_eqlStr (.tmp _ _ rfl) (ev_str rfl)) ?_
                    refine AList.p rfl (pure_assign (.tmp _ _ rfl)) ?_
                    refine AList.nil ?_
                    refine Next.go ?_
                    -- c9
                    refine AWP.cond (.tmp _ _ rfl) (fun hc16 => ?_) (fun hc16 => ?_)
                    · try simp only [decide_eq_true_eq] at hc16
                      refine AWP.skip ?_
                      refine Next.go ?_
                      -- c10
                      refine AWP.cond_true (.tmp _ _ rfl) (by first | rfl | assumption | exact decide_eq_true (by assumption)) ?_
                      refine AWP.seq ?_
                      -- region 16
                      refine AWP.region ?_
                      refine AList.p rfl (pure_assign ev_int) ?_
                      refine AList.nil ?_
                      refine Next.go ?_
                      refine AWP.ret ?_
                      refine Block.rt ?_
                      refine Next.rt ?_
                      -- ret 9
                      refine Ret.go (.cons (.tmp _ _ rfl) .nil) _ (Heap.le.refl _) ?_
                      refine ⟨?_, rfl⟩
                      simp_all [packed, lev]
                    · try simp only [decide_eq_false_iff_not] at hc16
                      -- region 15
                      refine AWP.region ?_
                      refine AList.p rfl (pure_eqlStr (.tmp _ _ rfl) (ev_str rfl)) ?_
                      refine AList.p rfl (pure_assign (.tmp _ _ rfl)) ?_
                      refine AList.nil ?_
                      refine Next.go ?_
                      -- c10
                      refine AWP.cond (.tmp _ _ rfl) (fun hc16 => ?_) (fun hc16 => ?_)
                      · try simp only [decide_eq_true_eq] at hc16
                        refine AWP.seq ?_
                        -- region 16
                        refine AWP.region ?_
                        refine AList.p rfl (pure_assign ev_int) ?_
                        refine AList.nil ?_
                        refine Next.go ?_
                        refine AWP.ret ?_
                        refine Block.rt ?_
                        refine Next.rt ?_
                        -- ret 10
                        refine Ret.go (.cons (.tmp _ _ rfl) .nil) _ (Heap.le.refl _) ?_
                        refine ⟨?_, rfl⟩
                        simp_all [packed, lev]
                      · try simp only [decide_eq_false_iff_not] at hc16
                        refine AWP.seq ?_
                        -- region 17
                        refine AWP.region ?_
                        refine AList.p rfl (pure_eqlStr (.tmp _ _ rfl) (ev_str rfl)) ?_
                        refine AList.p rfl (pure_assign (.tmp _ _ rfl)) ?_
                        refine AList.nil ?_
                        refine Next.go ?_
                        -- c11
                        refine AWP.cond (.tmp _ _ rfl) (fun hc19 => ?_) (fun hc19 => ?_)
                        · try simp only [decide_eq_true_eq] at hc19
                          refine AWP.seq ?_
                          -- region 18
                          refine AWP.region ?_
                          refine AList.p rfl (pure_assign ev_int) ?_
                          refine AList.nil ?_
                          refine Next.go ?_
                          refine AWP.ret ?_
                          refine Block.rt ?_
                          refine Next.rt ?_
                          -- ret 11
                          refine Ret.go (.cons (.tmp _ _ rfl) .nil) _ (Heap.le.refl _) ?_
                          refine ⟨?_, rfl⟩
                          simp_all [packed, lev]
                        · try simp only [decide_eq_false_iff_not] at hc19
                          refine AWP.skip ?_
                          refine Block.go ?_
                          refine Next.go ?_
                          refine AWP.seq ?_
                          -- region 19
                          refine AWP.region ?_
                          refine AList.p rfl (pure_assign ev_int) ?_
                          refine AList.nil ?_
                          refine Next.go ?_
                          refine AWP.ret ?_
                          -- ret 12
                          refine Ret.go (.cons (.tmp _ _ rfl) .nil) _ (Heap.le.refl _) ?_
                          refine ⟨?_, rfl⟩
                          simp_all [packed, lev]

set_option maxRecDepth 100000 in
theorem FailName_calls (n : Int) (H : Heap) : ACall Tryz.prog 49 [.int .i64 n] H (fun y H' => y = .str (FailName n) ∧ H' = H) := by
  refine ACall.of_body Tryz.func49 rfl Tryz.ntmps49 Tryz.results49 rfl ?_
  refine AWP.seq ?_
  -- region 0
  refine AWP.region ?_
  refine AList.p rfl (pure_assign (ev_str rfl)) ?_
  refine AList.nil ?_
  refine Next.go ?_
  refine AWP.seq ?_
  refine AWP.seq ?_
  -- region 1
  refine AWP.region ?_
  refine AList.p rfl (pure_move (.tmp _ _ rfl)) ?_
  refine AList.nil ?_
  refine Next.go ?_
  refine AWP.block ?_
  refine AWP.seq ?_
  -- region 2
  refine AWP.region ?_
  refine AList.p rfl (pure_eql (.tmp _ _ rfl) ev_int) ?_
  refine AList.p rfl (pure_assign (.tmp _ _ rfl)) ?_
  refine AList.nil ?_
  refine Next.go ?_
  -- c0
  refine AWP.cond (.tmp _ _ rfl) (fun hc4 => ?_) (fun hc4 => ?_)
  · try simp only [decide_eq_true_eq] at hc4
    refine AWP.seq ?_
    -- region 3
    refine AWP.region ?_
    refine AList.p rfl (pure_assign (ev_str rfl)) ?_
    refine AList.nil ?_
    refine Next.go ?_
    refine AWP.ret ?_
    refine Block.rt ?_
    refine Next.rt ?_
    -- ret 0
    refine Ret.go (.cons (.tmp _ _ rfl) .nil) _ (Heap.le.refl _) ?_
    refine ⟨?_, rfl⟩
    simp_all [packed, FailName]
  · try simp only [decide_eq_false_iff_not] at hc4
    refine AWP.seq ?_
    -- region 4
    refine AWP.region ?_
    refine AList.p rfl (pure_eql (.tmp _ _ rfl) ev_int) ?_
    refine AList.p rfl (pure_assign (.tmp _ _ rfl)) ?_
    refine AList.nil ?_
    refine Next.go ?_
    -- c1
    refine AWP.cond (.tmp _ _ rfl) (fun hc6 => ?_) (fun hc6 => ?_)
    · try simp only [decide_eq_true_eq] at hc6
      refine AWP.seq ?_
      -- region 5
      refine AWP.region ?_
      refine AList.p rfl (pure_assign (ev_str rfl)) ?_
      refine AList.nil ?_
      refine Next.go ?_
      refine AWP.ret ?_
      refine Block.rt ?_
      refine Next.rt ?_
      -- ret 1
      refine Ret.go (.cons (.tmp _ _ rfl) .nil) _ (Heap.le.refl _) ?_
      refine ⟨?_, rfl⟩
      simp_all [packed, FailName]
    · try simp only [decide_eq_false_iff_not] at hc6
      refine AWP.seq ?_
      -- region 6
      refine AWP.region ?_
      refine AList.p rfl (pure_eql (.tmp _ _ rfl) ev_int) ?_
      refine AList.p rfl (pure_assign (.tmp _ _ rfl)) ?_
      refine AList.nil ?_
      refine Next.go ?_
      -- c2
      refine AWP.cond (.tmp _ _ rfl) (fun hc8 => ?_) (fun hc8 => ?_)
      · try simp only [decide_eq_true_eq] at hc8
        refine AWP.seq ?_
        -- region 7
        refine AWP.region ?_
        refine AList.p rfl (pure_assign (ev_str rfl)) ?_
        refine AList.nil ?_
        refine Next.go ?_
        refine AWP.ret ?_
        refine Block.rt ?_
        refine Next.rt ?_
        -- ret 2
        refine Ret.go (.cons (.tmp _ _ rfl) .nil) _ (Heap.le.refl _) ?_
        refine ⟨?_, rfl⟩
        simp_all [packed, FailName]
      · try simp only [decide_eq_false_iff_not] at hc8
        refine AWP.seq ?_
        -- region 8
        refine AWP.region ?_
        refine AList.p rfl (pure_eql (.tmp _ _ rfl) ev_int) ?_
        refine AList.p rfl (pure_assign (.tmp _ _ rfl)) ?_
        refine AList.nil ?_
        refine Next.go ?_
        -- c3
        refine AWP.cond (.tmp _ _ rfl) (fun hc10 => ?_) (fun hc10 => ?_)
        · try simp only [decide_eq_true_eq] at hc10
          refine AWP.seq ?_
          -- region 9
          refine AWP.region ?_
          refine AList.p rfl (pure_assign (ev_str rfl)) ?_
          refine AList.nil ?_
          refine Next.go ?_
          refine AWP.ret ?_
          refine Block.rt ?_
          refine Next.rt ?_
          -- ret 3
          refine Ret.go (.cons (.tmp _ _ rfl) .nil) _ (Heap.le.refl _) ?_
          refine ⟨?_, rfl⟩
          simp_all [packed, FailName]
        · try simp only [decide_eq_false_iff_not] at hc10
          refine AWP.seq ?_
          -- region 10
          refine AWP.region ?_
          refine AList.p rfl (pure_eql (.tmp _ _ rfl) ev_int) ?_
          refine AList.p rfl (pure_assign (.tmp _ _ rfl)) ?_
          refine AList.nil ?_
          refine Next.go ?_
          -- c4
          refine AWP.cond (.tmp _ _ rfl) (fun hc12 => ?_) (fun hc12 => ?_)
          · try simp only [decide_eq_true_eq] at hc12
            refine AWP.seq ?_
            -- region 11
            refine AWP.region ?_
            refine AList.p rfl (pure_assign (ev_str rfl)) ?_
            refine AList.nil ?_
            refine Next.go ?_
            refine AWP.ret ?_
            refine Block.rt ?_
            refine Next.rt ?_
            -- ret 4
            refine Ret.go (.cons (.tmp _ _ rfl) .nil) _ (Heap.le.refl _) ?_
            refine ⟨?_, rfl⟩
            simp_all [packed, FailName]
          · try simp only [decide_eq_false_iff_not] at hc12
            refine AWP.seq ?_
            -- region 12
            refine AWP.region ?_
            refine AList.p rfl (pure_eql (.tmp _ _ rfl) ev_int) ?_
            refine AList.p rfl (pure_assign (.tmp _ _ rfl)) ?_
            refine AList.nil ?_
            refine Next.go ?_
            -- c5
            refine AWP.cond (.tmp _ _ rfl) (fun hc14 => ?_) (fun hc14 => ?_)
            · try simp only [decide_eq_true_eq] at hc14
              refine AWP.seq ?_
              -- region 13
              refine AWP.region ?_
              refine AList.p rfl (pure_assign (ev_str rfl)) ?_
              refine AList.nil ?_
              refine Next.go ?_
              refine AWP.ret ?_
              refine Block.rt ?_
              refine Next.rt ?_
              -- ret 5
              refine Ret.go (.cons (.tmp _ _ rfl) .nil) _ (Heap.le.refl _) ?_
              refine ⟨?_, rfl⟩
              simp_all [packed, FailName]
            · try simp only [decide_eq_false_iff_not] at hc14
              refine AWP.seq ?_
              -- region 14
              refine AWP.region ?_
              refine AList.p rfl (pure_eql (.tmp _ _ rfl) ev_int) ?_
              refine AList.p rfl (pure_assign (.tmp _ _ rfl)) ?_
              refine AList.nil ?_
              refine Next.go ?_
              -- c6
              refine AWP.cond (.tmp _ _ rfl) (fun hc16 => ?_) (fun hc16 => ?_)
              · try simp only [decide_eq_true_eq] at hc16
                refine AWP.seq ?_
                -- region 15
                refine AWP.region ?_
                refine AList.p rfl (pure_assign (ev_str rfl)) ?_
                refine AList.nil ?_
                refine Next.go ?_
                refine AWP.ret ?_
                refine Block.rt ?_
                refine Next.rt ?_
                -- ret 6
                refine Ret.go (.cons (.tmp _ _ rfl) .nil) _ (Heap.le.refl _) ?_
                refine ⟨?_, rfl⟩
                simp_all [packed, FailName]
              · try simp only [decide_eq_false_iff_not] at hc16
                refine AWP.seq ?_
                -- region 16
                refine AWP.region ?_
                refine AList.p rfl (pure_eql (.tmp _ _ rfl) ev_int) ?_
                refine AList.p rfl (pure_assign (.tmp _ _ rfl)) ?_
                refine AList.nil ?_
                refine Next.go ?_
                -- c7
                refine AWP.cond (.tmp _ _ rfl) (fun hc18 => ?_) (fun hc18 => ?_)
                · try simp only [decide_eq_true_eq] at hc18
                  refine AWP.seq ?_
                  -- region 17
                  refine AWP.region ?_
                  refine AList.p rfl (pure_assign (ev_str rfl)) ?_
                  refine AList.nil ?_
                  refine Next.go ?_
                  refine AWP.ret ?_
                  refine Block.rt ?_
                  refine Next.rt ?_
                  -- ret 7
                  refine Ret.go (.cons (.tmp _ _ rfl) .nil) _ (Heap.le.refl _) ?_
                  refine ⟨?_, rfl⟩
                  simp_all [packed, FailName]
                · try simp only [decide_eq_false_iff_not] at hc18
                  refine AWP.skip ?_
                  refine Block.go ?_
                  refine Next.go ?_
                  refine AWP.seq ?_
                  -- region 18
                  refine AWP.region ?_
                  refine AList.p rfl (pure_assign (ev_str rfl)) ?_
                  refine AList.nil ?_
                  refine Next.go ?_
                  refine AWP.ret ?_
                  -- ret 8
                  refine Ret.go (.cons (.tmp _ _ rfl) .nil) _ (Heap.le.refl _) ?_
                  refine ⟨?_, rfl⟩
                  simp_all [packed, FailName]

set_option maxRecDepth 100000 in
theorem bare_calls (k b : Int) (s : List UInt8) (i : Bool) (f : Int) (p q : Pt) (ks : List Ex) (b2 : Int) (s2 : List UInt8) (i2 : Bool) (f2 : Int) (p2 q2 : Pt) (H : Heap) : ACall Tryz.prog 94 [ndv k b s i f p q ks, ndz b2 s2 i2 f2 p2 q2] H (fun y H' => y = .bool (decide (b = b2 ∧ s = s2 ∧ i = i2 ∧ f = f2 ∧ p = p2 ∧ q = q2)) ∧ H' = H) := by
  refine ACall.of_body Tryz.func94 rfl Tryz.ntmps94 Tryz.results94 rfl ?_
  refine AWP.seq ?_
  -- region 0
  refine AWP.region ?_
  refine AList.s rfl (step_boxI (.tmp _ _ rfl) (.inr ⟨_, rfl⟩)) ?_
  rintro _ _ ⟨rfl, hH⟩
  obtain rfl := hH.symm
  refine AList.s rfl (step_boxI (.tmp _ _ rfl) (.inr ⟨_, rfl⟩)) ?_
  rintro _ _ ⟨rfl, hH⟩
  obtain rfl := hH.symm
  refine AList.p rfl (pure_assign ev_bool) ?_
  refine AList.nil ?_
  refine Next.go ?_
  refine AWP.seq ?_
  -- region 1
  refine AWP.region ?_
  first | (refine AList.p rfl (pure_fieldI Tryz.underlying27 rfl Tryz.sizeOf22 (.tmp _ _ rfl)) ?_) | (refine AList.p rfl (pure_field Tryz.underlying27 rfl Tryz.sizeOf22 (.tmp _ _ rfl)) ?_)
  first | (refine AList.p rfl (pure_load1 Tryz.isAgg22 (.tmp _ _ rfl)) ?_) | (refine AList.s rfl (step_load1 Tryz.isAgg22 (.tmp _ _ rfl) (by first | assumption | exact (by assumption : Heap.le _ _).objs _ _ (by assumption) | exact Heap.objs_set_same _ _ _ | exact (Heap.objs_set_ne _ _ (by assumption)).trans (Heap.objs_set_same _ _ _) | exact (Heap.objs_set_ne _ _ (by assumption)).trans ((Heap.objs_set_ne _ _ (by assumption)).trans (Heap.objs_set_same _ _ _)) | exact (Heap.objs_set_ne _ _ (by assumption)).trans (by assumption)) rfl) ?_; rintro _ _ ⟨rfl, hH⟩; obtain rfl := hH.symm)
  first | (refine AList.p rfl (pure_fieldI Tryz.underlying27 rfl Tryz.sizeOf22 (.tmp _ _ rfl)) ?_) | (refine AList.p rfl (pure_field Tryz.underlying27 rfl Tryz.sizeOf22 (.tmp _ _ rfl)) ?_)
  first | (refine AList.p rfl (pure_load1 Tryz.isAgg22 (.tmp _ _ rfl)) ?_) | (refine AList.s rfl (step_load1 Tryz.isAgg22 (.tmp _ _ rfl) (by first | assumption | exact (by assumption : Heap.le _ _).objs _ _ (by assumption) | exact Heap.objs_set_same _ _ _ | exact (Heap.objs_set_ne _ _ (by assumption)).trans (Heap.objs_set_same _ _ _) | exact (Heap.objs_set_ne _ _ (by assumption)).trans ((Heap.objs_set_ne _ _ (by assumption)).trans (Heap.objs_set_same _ _ _)) | exact (Heap.objs_set_ne _ _ (by assumption)).trans (by assumption)) rfl) ?_; rintro _ _ ⟨rfl, hH⟩; obtain rfl := hH.symm)
  refine AList.p rfl (pure_eql (.tmp _ _ rfl) (.tmp _ _ rfl)) ?_
  refine AList.p rfl (pure_move (.tmp _ _ rfl)) ?_
  first | (refine AList.lz1 rfl rfl rfl (fun z => pure_fieldI Tryz.underlying27 rfl Tryz.sizeOf9 (.tmp _ _ rfl)) ?_) | (refine AList.lz1 rfl rfl rfl (fun z => pure_field Tryz.underlying27 rfl Tryz.sizeOf9 (.tmp _ _ rfl)) ?_)
  first | (refine AList.lz1 rfl rfl rfl (fun z => pure_load1 Tryz.isAgg9 (.lz rfl z)) ?_) | (refine AList.ls1 rfl rfl rfl (fun z => step_load1 Tryz.isAgg9 (.lz rfl z) (by first | assumption | exact (by assumption : Heap.le _ _).objs _ _ (by assumption) | exact Heap.objs_set_same _ _ _ | exact (Heap.objs_set_ne _ _ (by assumption)).trans (Heap.objs_set_same _ _ _) | exact (Heap.objs_set_ne _ _ (by assumption)).trans ((Heap.objs_set_ne _ _ (by assumption)).trans (Heap.objs_set_same _ _ _)) | exact (Heap.objs_set_ne _ _ (by assumption)).trans (by assumption)) rfl) ?_)
  first | (refine AList.lz1 rfl rfl rfl (fun z => pure_fieldI Tryz.underlying27 rfl Tryz.sizeOf9 (.tmp _ _ rfl)) ?_) | (refine AList.lz1 rfl rfl rfl (fun z => pure_field Tryz.underlying27 rfl Tryz.sizeOf9 (.tmp _ _ rfl)) ?_)
  first | (refine AList.lz1 rfl rfl rfl (fun z => pure_load1 Tryz.isAgg9 (.lz rfl z)) ?_) | (refine AList.ls1 rfl rfl rfl (fun z => step_load1 Tryz.isAgg9 (.lz rfl z) (by first | assumption | exact (by assumption : Heap.le _ _).objs _ _ (by assumption) | exact Heap.objs_set_same _ _ _ | exact (Heap.objs_set_ne _ _ (by assumption)).trans (Heap.objs_set_same _ _ _) | exact (Heap.objs_set_ne _ _ (by assumption)).trans ((Heap.objs_set_ne _ _ (by assumption)).trans (Heap.objs_set_same _ _ _)) | exact (Heap.objs_set_ne _ _ (by assumption)).trans (by assumption)) rfl) ?_)
  refine AList.lz1 rfl rfl rfl (fun z => pure_eqlStr (.lz rfl z) (.lz rfl z)) ?_
  refine AList.p rfl (pure_pickA (.tmp _ _ rfl) rfl) ?_
  refine AList.p rfl (pure_move (.tmp _ _ rfl)) ?_
  first | (refine AList.lz1 rfl rfl rfl (fun z => pure_fieldI Tryz.underlying27 rfl Tryz.sizeOf4 (.tmp _ _ rfl)) ?_) | (refine AList.lz1 rfl rfl rfl (fun z => pure_field Tryz.underlying27 rfl Tryz.sizeOf4 (.tmp _ _ rfl)) ?_)
  first | (refine AList.lz1 rfl rfl rfl (fun z => pure_load1 Tryz.isAgg4 (.lz rfl z)) ?_) | (refine AList.ls1 rfl rfl rfl (fun z => step_load1 Tryz.isAgg4 (.lz rfl z) (by first | assumption | exact (by assumption : Heap.le _ _).objs _ _ (by assumption) | exact Heap.objs_set_same _ _ _ | exact (Heap.objs_set_ne _ _ (by assumption)).trans (Heap.objs_set_same _ _ _) | exact (Heap.objs_set_ne _ _ (by assumption)).trans ((Heap.objs_set_ne _ _ (by assumption)).trans (Heap.objs_set_same _ _ _)) | exact (Heap.objs_set_ne _ _ (by assumption)).trans (by assumption)) rfl) ?_)
  first | (refine AList.lz1 rfl rfl rfl (fun z => pure_fieldI Tryz.underlying27 rfl Tryz.sizeOf4 (.tmp _ _ rfl)) ?_) | (refine AList.lz1 rfl rfl rfl (fun z => pure_field Tryz.underlying27 rfl Tryz.sizeOf4 (.tmp _ _ rfl)) ?_)
  first | (refine AList.lz1 rfl rfl rfl (fun z => pure_load1 Tryz.isAgg4 (.lz rfl z)) ?_) | (refine AList.ls1 rfl rfl rfl (fun z => step_load1 Tryz.isAgg4 (.lz rfl z) (by first | assumption | exact (by assumption : Heap.le _ _).objs _ _ (by assumption) | exact Heap.objs_set_same _ _ _ | exact (Heap.objs_set_ne _ _ (by assumption)).trans (Heap.objs_set_same _ _ _) | exact (Heap.objs_set_ne _ _ (by assumption)).trans ((Heap.objs_set_ne _ _ (by assumption)).trans (Heap.objs_set_same _ _ _)) | exact (Heap.objs_set_ne _ _ (by assumption)).trans (by assumption)) rfl) ?_)
  refine AList.lz1 rfl rfl rfl (fun z => pure_eqlB Tryz.underlying4 (.lz rfl z) (.lz rfl z)) ?_
  refine AList.p rfl (pure_pickA (.tmp _ _ rfl) rfl) ?_
  refine AList.p rfl (pure_move (.tmp _ _ rfl)) ?_
  first | (refine AList.lz1 rfl rfl rfl (fun z => pure_fieldI Tryz.underlying27 rfl Tryz.sizeOf3 (.tmp _ _ rfl)) ?_) | (refine AList.lz1 rfl rfl rfl (fun z => pure_field Tryz.underlying27 rfl Tryz.sizeOf3 (.tmp _ _ rfl)) ?_)
  first | (refine AList.lz1 rfl rfl rfl (fun z => pure_load1 Tryz.isAgg3 (.lz rfl z)) ?_) | (refine AList.ls1 rfl rfl rfl (fun z => step_load1 Tryz.isAgg3 (.lz rfl z) (by first | assumption | exact (by assumption : Heap.le _ _).objs _ _ (by assumption) | exact Heap.objs_set_same _ _ _ | exact (Heap.objs_set_ne _ _ (by assumption)).trans (Heap.objs_set_same _ _ _) | exact (Heap.objs_set_ne _ _ (by assumption)).trans ((Heap.objs_set_ne _ _ (by assumption)).trans (Heap.objs_set_same _ _ _)) | exact (Heap.objs_set_ne _ _ (by assumption)).trans (by assumption)) rfl) ?_)
  first | (refine AList.lz1 rfl rfl rfl (fun z => pure_fieldI Tryz.underlying27 rfl Tryz.sizeOf3 (.tmp _ _ rfl)) ?_) | (refine AList.lz1 rfl rfl rfl (fun z => pure_field Tryz.underlying27 rfl Tryz.sizeOf3 (.tmp _ _ rfl)) ?_)
  first | (refine AList.lz1 rfl rfl rfl (fun z => pure_load1 Tryz.isAgg3 (.lz rfl z)) ?_) | (refine AList.ls1 rfl rfl rfl (fun z => step_load1 Tryz.isAgg3 (.lz rfl z) (by first | assumption | exact (by assumption : Heap.le _ _).objs _ _ (by assumption) | exact Heap.objs_set_same _ _ _ | exact (Heap.objs_set_ne _ _ (by assumption)).trans (Heap.objs_set_same _ _ _) | exact (Heap.objs_set_ne _ _ (by assumption)).trans ((Heap.objs_set_ne _ _ (by assumption)).trans (Heap.objs_set_same _ _ _)) | exact (Heap.objs_set_ne _ _ (by assumption)).trans (by assumption)) rfl) ?_)
  refine AList.lz1 rfl rfl rfl (fun z => pure_eql (.lz rfl z) (.lz rfl z)) ?_
  refine AList.p rfl (pure_pickA (.tmp _ _ rfl) rfl) ?_
  refine AList.p rfl (pure_move (.tmp _ _ rfl)) ?_
  first | (refine AList.lz1 rfl rfl rfl (fun z => pure_fieldI Tryz.underlying27 rfl Tryz.sizeOf24 (.tmp _ _ rfl)) ?_) | (refine AList.lz1 rfl rfl rfl (fun z => pure_field Tryz.underlying27 rfl Tryz.sizeOf24 (.tmp _ _ rfl)) ?_)
  first | (refine AList.lz1 rfl rfl rfl (fun z => pure_loadN Tryz.isAgg24 Tryz.sizeOf24 (.lz rfl z) (Nat.le_of_ble_eq_true rfl)) ?_) | (refine AList.ls1 rfl rfl rfl (fun z => step_loadN Tryz.isAgg24 Tryz.sizeOf24 (.lz rfl z) (by first | assumption | exact (by assumption : Heap.le _ _).objs _ _ (by assumption) | exact Heap.objs_set_same _ _ _ | exact (Heap.objs_set_ne _ _ (by assumption)).trans (Heap.objs_set_same _ _ _) | exact (Heap.objs_set_ne _ _ (by assumption)).trans ((Heap.objs_set_ne _ _ (by assumption)).trans (Heap.objs_set_same _ _ _)) | exact (Heap.objs_set_ne _ _ (by assumption)).trans (by assumption)) (Nat.le_of_ble_eq_true rfl)) ?_)
  first | (refine AList.lz1 rfl rfl rfl (fun z => pure_fieldI Tryz.underlying27 rfl Tryz.sizeOf24 (.tmp _ _ rfl)) ?_) | (refine AList.lz1 rfl rfl rfl (fun z => pure_field Tryz.underlying27 rfl Tryz.sizeOf24 (.tmp _ _ rfl)) ?_)
  first | (refine AList.lz1 rfl rfl rfl (fun z => pure_loadN Tryz.isAgg24 Tryz.sizeOf24 (.lz rfl z) (Nat.le_of_ble_eq_true rfl)) ?_) | (refine AList.ls1 rfl rfl rfl (fun z => step_loadN Tryz.isAgg24 Tryz.sizeOf24 (.lz rfl z) (by first | assumption | exact (by assumption : Heap.le _ _).objs _ _ (by assumption) | exact Heap.objs_set_same _ _ _ | exact (Heap.objs_set_ne _ _ (by assumption)).trans (Heap.objs_set_same _ _ _) | exact (Heap.objs_set_ne _ _ (by assumption)).trans ((Heap.objs_set_ne _ _ (by assumption)).trans (Heap.objs_set_same _ _ _)) | exact (Heap.objs_set_ne _ _ (by assumption)).trans (by assumption)) (Nat.le_of_ble_eq_true rfl)) ?_)
  refine AList.lz1 rfl rfl rfl (fun z => pure_eqlA Tryz.eqGuardType24 (.lz rfl z) (.lz rfl z) (eqPt (p) (p2))) ?_
  refine AList.p rfl (pure_pickA (.tmp _ _ rfl) rfl) ?_
  refine AList.p rfl (pure_move (.tmp _ _ rfl)) ?_
  first | (refine AList.lz1 rfl rfl rfl (fun z => pure_fieldI Tryz.underlying27 rfl Tryz.sizeOf24 (.tmp _ _ rfl)) ?_) | (refine AList.lz1 rfl rfl rfl (fun z => pure_field Tryz.underlying27 rfl Tryz.sizeOf24 (.tmp _ _ rfl)) ?_)
  first | (refine AList.lz1 rfl rfl rfl (fun z => pure_loadN Tryz.isAgg24 Tryz.sizeOf24 (.lz rfl z) (Nat.le_of_ble_eq_true rfl)) ?_) | (refine AList.ls1 rfl rfl rfl (fun z => step_loadN Tryz.isAgg24 Tryz.sizeOf24 (.lz rfl z) (by first | assumption | exact (by assumption : Heap.le _ _).objs _ _ (by assumption) | exact Heap.objs_set_same _ _ _ | exact (Heap.objs_set_ne _ _ (by assumption)).trans (Heap.objs_set_same _ _ _) | exact (Heap.objs_set_ne _ _ (by assumption)).trans ((Heap.objs_set_ne _ _ (by assumption)).trans (Heap.objs_set_same _ _ _)) | exact (Heap.objs_set_ne _ _ (by assumption)).trans (by assumption)) (Nat.le_of_ble_eq_true rfl)) ?_)
  first | (refine AList.lz1 rfl rfl rfl (fun z => pure_fieldI Tryz.underlying27 rfl Tryz.sizeOf24 (.tmp _ _ rfl)) ?_) | (refine AList.lz1 rfl rfl rfl (fun z => pure_field Tryz.underlying27 rfl Tryz.sizeOf24 (.tmp _ _ rfl)) ?_)
  first | (refine AList.lz1 rfl rfl rfl (fun z => pure_loadN Tryz.isAgg24 Tryz.sizeOf24 (.lz rfl z) (Nat.le_of_ble_eq_true rfl)) ?_) | (refine AList.ls1 rfl rfl rfl (fun z => step_loadN Tryz.isAgg24 Tryz.sizeOf24 (.lz rfl z) (by first | assumption | exact (by assumption : Heap.le _ _).objs _ _ (by assumption) | exact Heap.objs_set_same _ _ _ | exact (Heap.objs_set_ne _ _ (by assumption)).trans (Heap.objs_set_same _ _ _) | exact (Heap.objs_set_ne _ _ (by assumption)).trans ((Heap.objs_set_ne _ _ (by assumption)).trans (Heap.objs_set_same _ _ _)) | exact (Heap.objs_set_ne _ _ (by assumption)).trans (by assumption)) (Nat.le_of_ble_eq_true rfl)) ?_)
  refine AList.lz1 rfl rfl rfl (fun z => pure_eqlA Tryz.eqGuardType24 (.lz rfl z) (.lz rfl z) (eqPt (q) (q2))) ?_
  refine AList.p rfl (pure_pickA (.tmp _ _ rfl) rfl) ?_
  refine AList.p rfl (pure_assign (.tmp _ _ rfl)) ?_
  refine AList.nil ?_
  refine Next.go ?_
  refine AWP.ret ?_
  -- ret 0
  refine Ret.go (.cons (.tmp _ _ rfl) .nil) _ (Heap.le.refl _) ?_
  refine ⟨?_, rfl⟩
  cases i <;> cases i2 <;> simp [packed, Bool.and_assoc]

def setN : List UInt8 := [65, 66, 67, 68, 69, 70, 71, 72, 73, 74, 75, 76, 77, 78, 79, 80, 81, 82, 83, 84, 85, 86, 87, 88, 89, 90, 48, 49, 50, 51, 52, 53, 54, 55, 56, 57, 46, 95]
theorem okc_set (c : UInt8) : setN.contains c = okc c := by
  have h : (∀ n : Fin 256, setN.contains (UInt8.ofNat n.1) = okc (UInt8.ofNat n.1)) := by decide +kernel
  have := h ⟨c.toNat, c.toNat_lt⟩
  simpa using this
theorem fname_eq (s : List UInt8) : fname s = (decide (s ≠ []) && (decide ((s.length : Int) ≤ 40) && (decide (Lib.trimS s setN = []) && (decide (65 ≤ ((s.getD 0 0).toNat : Int)) && decide (((s.getD 0 0).toNat : Int) ≤ 90))))) := by
  have h1 : s.all okc = decide (Lib.trimS s setN = []) := by
    rw [show s.all okc = s.all (fun c => setN.contains c) from by congr 1; funext c; exact (okc_set c).symm]
    cases h : s.all fun c => setN.contains c with
    | true => exact (decide_eq_true ((trimS_nil s setN).2 h)).symm
    | false => exact (decide_eq_false fun e => by rw [(trimS_nil s setN).1 e] at h; cases h).symm
  unfold fname
  rw [h1]
  simp only [Bool.decide_and, Bool.and_assoc]
  rw [show decide ((s.length : Int) ≤ 40) = decide (s.length ≤ 40) from by congr 1; exact propext (by omega), show decide (65 ≤ ((s.getD 0 0).toNat : Int)) = decide (65 ≤ (s.getD 0 0).toNat) from by congr 1; exact propext (by omega), show decide (((s.getD 0 0).toNat : Int) ≤ 90) = decide ((s.getD 0 0).toNat ≤ 90) from by congr 1; exact propext (by omega)]
  generalize decide (s ≠ []) = a
  generalize decide (s.length ≤ 40) = b
  generalize decide (65 ≤ _) = c
  generalize decide (_ ≤ 90) = d
  generalize decide (Lib.trimS s setN = []) = e
  cases a <;> cases b <;> cases c <;> cases d <;> cases e <;> rfl

set_option maxRecDepth 100000 in
theorem fname_calls (s : List UInt8) (H : Heap) : ACall Tryz.prog 95 [.str s] H (fun y H' => y = .bool (fname s) ∧ H' = H) := by
  refine ACall.of_body Tryz.func95 rfl Tryz.ntmps95 Tryz.results95 rfl ?_
  refine AWP.seq ?_
  -- region 0
  refine AWP.region ?_
  refine AList.p rfl (pure_assign ev_bool) ?_
  refine AList.nil ?_
  refine Next.go ?_
  refine AWP.seq ?_
  -- region 1
  refine AWP.region ?_
  refine AList.p rfl (pure_move (.tmp _ _ rfl)) ?_
  refine AList.s rfl (step_call0 Tryz.call146 (.cons (.tmp _ _ rfl) (.cons (ev_str rfl) .nil)) (trimSetA setN (by decide) (by decide) _ _)) ?_
  rintro _ _ ⟨rfl, hH⟩
  obtain rfl := hH.symm
  refine AList.p rfl (pure_assign (.tmp _ _ rfl)) ?_
  refine AList.nil ?_
  refine Next.go ?_
  refine AWP.seq ?_
  -- region 2
  refine AWP.region ?_
  refine AList.p rfl (pure_move (.tmp _ _ rfl)) ?_
  refine AList.p rfl (pure_neqStr (.tmp _ _ rfl) (ev_str rfl)) ?_
  refine AList.p rfl (pure_move (.tmp _ _ rfl)) ?_
  -- the guard in slot 8
  refine bool_casesL (t := 8) rfl (fun hg8 => ?_) (fun hg8 => ?_)
  · have hh8 := hg8; try simp only [decide_eq_false_iff_not, Bool.not_eq_true'] at hh8
    refine AList.gp rfl rfl rfl (by first | rfl | assumption) (pure_move (.tmp _ _ rfl)) ?_
    refine AList.gp rfl rfl rfl (by first | rfl | assumption) (pure_lenStr Tryz.underlying9 (.tmp _ _ rfl)) ?_
    refine AList.gp rfl rfl rfl (by first | rfl | assumption) (pure_leq (.tmp _ _ rfl) ev_int) ?_
    refine AList.p rfl (pure_pickT (.tmp _ _ rfl) (by first | rfl | assumption) (.tmp _ _ rfl)) ?_
    refine AList.p rfl (pure_move (.tmp _ _ rfl)) ?_
    -- the guard in slot 13
    refine bool_casesL (t := 13) rfl (fun hg13 => ?_) (fun hg13 => ?_)
    · have hh13 := hg13; try simp only [decide_eq_true_eq] at hh13
      refine AList.gp rfl rfl rfl (by first | rfl | assumption) (pure_move (.tmp _ _ rfl)) ?_
      refine AList.gp rfl rfl rfl (by first | rfl | assumption) (pure_eqlStr (.tmp _ _ rfl) (ev_str rfl)) ?_
      refine AList.p rfl (pure_pickT (.tmp _ _ rfl) (by first | rfl | assumption) (.tmp _ _ rfl)) ?_
      refine AList.p rfl (pure_move (.tmp _ _ rfl)) ?_
      -- the guard in slot 17
      refine bool_casesL (t := 17) rfl (fun hg17 => ?_) (fun hg17 => ?_)
      · have hh17 := hg17; try simp only [decide_eq_true_eq] at hh17
        refine AList.gp rfl rfl rfl (by first | rfl | assumption) (pure_move (.tmp _ _ rfl)) ?_
        refine AList.gp rfl rfl rfl (by first | rfl | assumption) (pure_indexStr Tryz.underlying9 (.tmp _ _ rfl) ev_int (by first | omega | (have h9 := List.length_pos_iff.2 (show s ≠ [] by assumption); omega)) (by first | omega | (have h9 := List.length_pos_iff.2 (show s ≠ [] by assumption); omega))) ?_
        refine AList.gp rfl rfl rfl (by first | rfl | assumption) (pure_geq (.tmp _ _ rfl) ev_int) ?_
        refine AList.p rfl (pure_pickT (.tmp _ _ rfl) (by first | rfl | assumption) (.tmp _ _ rfl)) ?_
        refine AList.p rfl (pure_move (.tmp _ _ rfl)) ?_
        -- the guard in slot 22
        refine bool_casesL (t := 22) rfl (fun hg22 => ?_) (fun hg22 => ?_)
        · have hh22 := hg22; try simp only [decide_eq_true_eq] at hh22
          refine AList.gp rfl rfl rfl (by first | rfl | assumption) (pure_move (.tmp _ _ rfl)) ?_
          refine AList.gp rfl rfl rfl (by first | rfl | assumption) (pure_indexStr Tryz.underlying9 (.tmp _ _ rfl) ev_int (by first | omega | (have h9 := List.length_pos_iff.2 (show s ≠ [] by assumption); omega)) (by first | omega | (have h9 := List.length_pos_iff.2 (show s ≠ [] by assumption); omega))) ?_
          refine AList.gp rfl rfl rfl (by first | rfl | assumption) (pure_leq (.tmp _ _ rfl) ev_int) ?_
          refine AList.p rfl (pure_pickT (.tmp _ _ rfl) (by first | rfl | assumption) (.tmp _ _ rfl)) ?_
          refine AList.p rfl (pure_assign (.tmp _ _ rfl)) ?_
          refine AList.nil ?_
          refine Next.go ?_
          refine AWP.ret ?_
          -- ret 0
          refine Ret.go (.cons (.tmp _ _ rfl) .nil) _ (Heap.le.refl _) ?_
          refine ⟨?_, rfl⟩
          simp only [packed]
          rw [fname_eq]
          simp_all
          all_goals (intros; omega)
        · have hh22 := hg22; try simp only [decide_eq_false_iff_not, Int.not_le] at hh22
          refine AList.gn rfl rfl rfl (by first | rfl | assumption) ?_
          refine AList.gn rfl rfl rfl (by first | rfl | assumption) ?_
          refine AList.gn rfl rfl rfl (by first | rfl | assumption) ?_
          refine AList.p rfl (pure_pickF (.tmp _ _ rfl) (by first | rfl | assumption) ev_bool) ?_
          refine AList.p rfl (pure_assign (.tmp _ _ rfl)) ?_
          refine AList.nil ?_
          refine Next.go ?_
          refine AWP.ret ?_
          -- ret 1
          refine Ret.go (.cons (.tmp _ _ rfl) .nil) _ (Heap.le.refl _) ?_
          refine ⟨?_, rfl⟩
          simp only [packed]
          rw [fname_eq]
          simp_all
          all_goals (intros; omega)
      · have hh17 := hg17; try simp only [decide_eq_false_iff_not] at hh17
        refine AList.gn rfl rfl rfl (by first | rfl | assumption) ?_
        refine AList.gn rfl rfl rfl (by first | rfl | assumption) ?_
        refine AList.gn rfl rfl rfl (by first | rfl | assumption) ?_
        refine AList.p rfl (pure_pickF (.tmp _ _ rfl) (by first | rfl | assumption) ev_bool) ?_
        refine AList.p rfl (pure_move (.tmp _ _ rfl)) ?_
        refine AList.gn rfl rfl rfl (by first | rfl | assumption) ?_
        refine AList.gn rfl rfl rfl (by first | rfl | assumption) ?_
        refine AList.gn rfl rfl rfl (by first | rfl | assumption) ?_
        refine AList.p rfl (pure_pickF (.tmp _ _ rfl) (by first | rfl | assumption) ev_bool) ?_
        refine AList.p rfl (pure_assign (.tmp _ _ rfl)) ?_
        refine AList.nil ?_
        refine Next.go ?_
        refine AWP.ret ?_
        -- ret 2
        refine Ret.go (.cons (.tmp _ _ rfl) .nil) _ (Heap.le.refl _) ?_
        refine ⟨?_, rfl⟩
        simp only [packed]
        rw [fname_eq]
        simp_all
        all_goals (intros; omega)
    · have hh13 := hg13; try simp only [decide_eq_false_iff_not, Int.not_le] at hh13
      refine AList.gn rfl rfl rfl (by first | rfl | assumption) ?_
      refine AList.gn rfl rfl rfl (by first | rfl | assumption) ?_
      refine AList.p rfl (pure_pickF (.tmp _ _ rfl) (by first | rfl | assumption) ev_bool) ?_
      refine AList.p rfl (pure_move (.tmp _ _ rfl)) ?_
      refine AList.gn rfl rfl rfl (by first | rfl | assumption) ?_
      refine AList.gn rfl rfl rfl (by first | rfl | assumption) ?_
      refine AList.gn rfl rfl rfl (by first | rfl | assumption) ?_
      refine AList.p rfl (pure_pickF (.tmp _ _ rfl) (by first | rfl | assumption) ev_bool) ?_
      refine AList.p rfl (pure_move (.tmp _ _ rfl)) ?_
      refine AList.gn rfl rfl rfl (by first | rfl | assumption) ?_
      refine AList.gn rfl rfl rfl (by first | rfl | assumption) ?_
      refine AList.gn rfl rfl rfl (by first | rfl | assumption) ?_
      refine AList.p rfl (pure_pickF (.tmp _ _ rfl) (by first | rfl | assumption) ev_bool) ?_
      refine AList.p rfl (pure_assign (.tmp _ _ rfl)) ?_
      refine AList.nil ?_
      refine Next.go ?_
      refine AWP.ret ?_
      -- ret 3
      refine Ret.go (.cons (.tmp _ _ rfl) .nil) _ (Heap.le.refl _) ?_
      refine ⟨?_, rfl⟩
      simp only [packed]
      rw [fname_eq]
      simp_all
      all_goals (intros; omega)
  · have hh8 := hg8; try simp only [decide_eq_true_eq, Bool.not_eq_false'] at hh8
    refine AList.gn rfl rfl rfl (by first | rfl | assumption) ?_
    refine AList.gn rfl rfl rfl (by first | rfl | assumption) ?_
    refine AList.gn rfl rfl rfl (by first | rfl | assumption) ?_
    refine AList.p rfl (pure_pickF (.tmp _ _ rfl) (by first | rfl | assumption) ev_bool) ?_
    refine AList.p rfl (pure_move (.tmp _ _ rfl)) ?_
    refine AList.gn rfl rfl rfl (by first | rfl | assumption) ?_
    refine AList.gn rfl rfl rfl (by first | rfl | assumption) ?_
    refine AList.p rfl (pure_pickF (.tmp _ _ rfl) (by first | rfl | assumption) ev_bool) ?_
    refine AList.p rfl (pure_move (.tmp _ _ rfl)) ?_
    refine AList.gn rfl rfl rfl (by first | rfl | assumption) ?_
    refine AList.gn rfl rfl rfl (by first | rfl | assumption) ?_
    refine AList.gn rfl rfl rfl (by first | rfl | assumption) ?_
    refine AList.p rfl (pure_pickF (.tmp _ _ rfl) (by first | rfl | assumption) ev_bool) ?_
    refine AList.p rfl (pure_move (.tmp _ _ rfl)) ?_
    refine AList.gn rfl rfl rfl (by first | rfl | assumption) ?_
    refine AList.gn rfl rfl rfl (by first | rfl | assumption) ?_
    refine AList.gn rfl rfl rfl (by first | rfl | assumption) ?_
    refine AList.p rfl (pure_pickF (.tmp _ _ rfl) (by first | rfl | assumption) ev_bool) ?_
    refine AList.p rfl (pure_assign (.tmp _ _ rfl)) ?_
    refine AList.nil ?_
    refine Next.go ?_
    refine AWP.ret ?_
    -- ret 4
    refine Ret.go (.cons (.tmp _ _ rfl) .nil) _ (Heap.le.refl _) ?_
    refine ⟨?_, rfl⟩
    simp only [packed]
    rw [fname_eq]
    simp_all
    all_goals (intros; omega)

end Go.Proofs.YthhcdmmihjhipaaGreatDoor

namespace Go.Proofs.YthhcdmmihjhipaaGreatDoor
open Go Go.RowKit

theorem all_take {s : List UInt8} {i : Nat} (h : (s.take i).all okc = true) (hi : i < s.length) (hb : okc (s.getD i 0) = true) : (s.take (i + 1)).all okc = true := by
  rw [List.take_succ_eq_append_getElem hi, List.all_append, h]
  rw [List.getD_eq_getElem?_getD, List.getElem?_eq_getElem hi] at hb
  simpa using hb
theorem all_no {s : List UInt8} {i : Nat} (hi : i < s.length) (hb : okc (s.getD i 0) = false) : s.all okc = false := by
  rw [List.getD_eq_getElem?_getD, List.getElem?_eq_getElem hi] at hb
  exact List.all_eq_false.2 ⟨s[i], List.getElem_mem hi, by simpa using hb⟩
theorem all_yes {s : List UInt8} {i : Nat} (h : (s.take i).all okc = true) (hi : s.length ≤ i) : s.all okc = true := by
  rwa [List.take_of_length_le hi] at h
theorem fname_f {s : List UInt8} (h : s = [] ∨ 40 < (s.length : Int) ∨ ((s.getD (Int.toNat 0) 0).toNat : Int) < 65 ∨ 90 < ((s.getD (Int.toNat 0) 0).toNat : Int) ∨ s.all okc = false) : AV.bool false = AV.bool (fname s) := by
  unfold fname
  rcases h with h | h | h | h | h
  · rw [decide_eq_false (by simp [h])]; rfl
  · rw [decide_eq_false (fun q => by have := q.2.1; omega)]; rfl
  · rw [decide_eq_false (fun q => by have : ((s.getD 0 0).toNat : Int) < 65 := h; have := q.2.2.1; omega)]; rfl
  · rw [decide_eq_false (fun q => by have : 90 < ((s.getD 0 0).toNat : Int) := h; have := q.2.2.2; omega)]; rfl
  · rw [h, Bool.and_false]
theorem fname_t {s : List UInt8} (h1 : ¬ s = []) (h2 : (s.length : Int) ≤ 40) (h3 : 65 ≤ ((s.getD (Int.toNat 0) 0).toNat : Int)) (h4 : ((s.getD (Int.toNat 0) 0).toNat : Int) ≤ 90) (h5 : s.all okc = true) : AV.bool true = AV.bool (fname s) := by
  unfold fname
  have h3' : 65 ≤ ((s.getD 0 0).toNat : Int) := h3
  have h4' : ((s.getD 0 0).toNat : Int) ≤ 90 := h4
  rw [decide_eq_true ⟨h1, by omega, by omega, by omega⟩, h5]; rfl

def name_J (s : List UInt8) (H : Heap) : Nat → Env → Heap → Prop := fun k env H1 => ∃ i : Nat, i ≤ s.length ∧ (s.take i).all okc = true ∧ env = [(0, .str s), (3, .int .i64 (i : Int))] ∧ H = H1 ∧ k = s.length - i

set_option maxRecDepth 100000 in
theorem rname_calls (s : List UInt8) (hs : s.length ≤ maxLen) (H : Heap) : ACall Tryz.prog 98 [.str s] H (fun y H' => y = .bool (fname s) ∧ H' = H) := by
  have hml := maxLen_eq
  refine ACall.of_body Tryz.func98 rfl Tryz.ntmps98 Tryz.results98 rfl ?_
  refine AWP.seq ?_
  -- region 0
  refine AWP.region ?_
  refine AList.p rfl (pure_assign ev_bool) ?_
  refine AList.nil ?_
  refine Next.go ?_
  refine AWP.seq ?_
  refine AWP.seq ?_
  -- region 1
  refine AWP.region ?_
  refine AList.p rfl (pure_move (.tmp _ _ rfl)) ?_
  refine AList.p rfl (pure_eqlStr (.tmp _ _ rfl) (ev_str rfl)) ?_
  refine AList.p rfl (pure_move (.tmp _ _ rfl)) ?_
  -- the guard in slot 7
  refine bool_casesL (t := 7) rfl (fun hg7 => ?_) (fun hg7 => ?_)
  · have hh7 := hg7; try simp only [decide_eq_true_eq] at hh7
    refine AList.gn rfl rfl rfl (by first | rfl | assumption) ?_
    refine AList.gn rfl rfl rfl (by first | rfl | assumption) ?_
    refine AList.gn rfl rfl rfl (by first | rfl | assumption) ?_
    refine AList.p rfl (pure_pickT (.tmp _ _ rfl) (by first | rfl | assumption) ev_bool) ?_
    refine AList.p rfl (pure_move (.tmp _ _ rfl)) ?_
    refine AList.gn rfl rfl rfl (by first | rfl | assumption) ?_
    refine AList.gn rfl rfl rfl (by first | rfl | assumption) ?_
    refine AList.gn rfl rfl rfl (by first | rfl | assumption) ?_
    refine AList.p rfl (pure_pickT (.tmp _ _ rfl) (by first | rfl | assumption) ev_bool) ?_
    refine AList.p rfl (pure_move (.tmp _ _ rfl)) ?_
    refine AList.gn rfl rfl rfl (by first | rfl | assumption) ?_
    refine AList.gn rfl rfl rfl (by first | rfl | assumption) ?_
    refine AList.gn rfl rfl rfl (by first | rfl | assumption) ?_
    refine AList.p rfl (pure_pickT (.tmp _ _ rfl) (by first | rfl | assumption) ev_bool) ?_
    refine AList.nil ?_
    refine Next.go ?_
    -- c0
    refine AWP.cond_true (.tmp _ _ rfl) (by first | rfl | assumption | exact decide_eq_true (by assumption)) ?_
    refine AWP.seq ?_
    -- region 2
    refine AWP.region ?_
    refine AList.p rfl (pure_assign ev_bool) ?_
    refine AList.nil ?_
    refine Next.go ?_
    refine AWP.ret ?_
    refine Next.rt ?_
    -- ret 0
    refine Ret.go (.cons (.tmp _ _ rfl) .nil) _ (Heap.le.refl _) ?_
    refine ⟨?_, rfl⟩
    first | exact fname_t (by assumption) (by assumption) (by assumption) (by assumption) (by assumption) | exact fname_f (.inl (by assumption)) | exact fname_f (.inr (.inr (.inr (.inr (by assumption))))) | exact fname_f (.inr (.inl (by assumption))) | exact fname_f (.inr (.inr (.inl (by assumption)))) | exact fname_f (.inr (.inr (.inr (.inl (by assumption)))))
  · have hh7 := hg7; try simp only [decide_eq_false_iff_not] at hh7
    refine AList.gp rfl rfl rfl (by first | rfl | assumption) (pure_move (.tmp _ _ rfl)) ?_
    refine AList.gp rfl rfl rfl (by first | rfl | assumption) (pure_lenStr Tryz.underlying9 (.tmp _ _ rfl)) ?_
    refine AList.gp rfl rfl rfl (by first | rfl | assumption) (pure_gtr (.tmp _ _ rfl) ev_int) ?_
    refine AList.p rfl (pure_pickF (.tmp _ _ rfl) (by first | rfl | assumption) (.tmp _ _ rfl)) ?_
    refine AList.p rfl (pure_move (.tmp _ _ rfl)) ?_
    -- the guard in slot 12
    refine bool_casesL (t := 12) rfl (fun hg12 => ?_) (fun hg12 => ?_)
    · have hh12 := hg12; try simp only [decide_eq_true_eq] at hh12
      refine AList.gn rfl rfl rfl (by first | rfl | assumption) ?_
      refine AList.gn rfl rfl rfl (by first | rfl | assumption) ?_
      refine AList.gn rfl rfl rfl (by first | rfl | assumption) ?_
      refine AList.p rfl (pure_pickT (.tmp _ _ rfl) (by first | rfl | assumption) ev_bool) ?_
      refine AList.p rfl (pure_move (.tmp _ _ rfl)) ?_
      refine AList.gn rfl rfl rfl (by first | rfl | assumption) ?_
      refine AList.gn rfl rfl rfl (by first | rfl | assumption) ?_
      refine AList.gn rfl rfl rfl (by first | rfl | assumption) ?_
      refine AList.p rfl (pure_pickT (.tmp _ _ rfl) (by first | rfl | assumption) ev_bool) ?_
      refine AList.nil ?_
      refine Next.go ?_
      -- c0
      refine AWP.cond_true (.tmp _ _ rfl) (by first | rfl | assumption | exact decide_eq_true (by assumption)) ?_
      refine AWP.seq ?_
      -- region 2
      refine AWP.region ?_
      refine AList.p rfl (pure_assign ev_bool) ?_
      refine AList.nil ?_
      refine Next.go ?_
      refine AWP.ret ?_
      refine Next.rt ?_
      -- ret 1
      refine Ret.go (.cons (.tmp _ _ rfl) .nil) _ (Heap.le.refl _) ?_
      refine ⟨?_, rfl⟩
      first | exact fname_t (by assumption) (by assumption) (by assumption) (by assumption) (by assumption) | exact fname_f (.inl (by assumption)) | exact fname_f (.inr (.inr (.inr (.inr (by assumption))))) | exact fname_f (.inr (.inl (by assumption))) | exact fname_f (.inr (.inr (.inl (by assumption)))) | exact fname_f (.inr (.inr (.inr (.inl (by assumption)))))
    · have hh12 := hg12; try simp only [decide_eq_false_iff_not, Int.not_lt] at hh12
      refine AList.gp rfl rfl rfl (by first | rfl | assumption) (pure_move (.tmp _ _ rfl)) ?_
      refine AList.gp rfl rfl rfl (by first | rfl | assumption) (pure_indexStr Tryz.underlying9 (.tmp _ _ rfl) ev_int (by first | omega | (have h9 := List.length_pos_iff.2 (show s ≠ [] by assumption); omega)) (by first | omega | (have h9 := List.length_pos_iff.2 (show s ≠ [] by assumption); omega))) ?_
      refine AList.gp rfl rfl rfl (by first | rfl | assumption) (pure_lss (.tmp _ _ rfl) ev_int) ?_
      refine AList.p rfl (pure_pickF (.tmp _ _ rfl) (by first | rfl | assumption) (.tmp _ _ rfl)) ?_
      refine AList.p rfl (pure_move (.tmp _ _ rfl)) ?_
      -- the guard in slot 17
      refine bool_casesL (t := 17) rfl (fun hg17 => ?_) (fun hg17 => ?_)
      · have hh17 := hg17; try simp only [decide_eq_true_eq] at hh17
        refine AList.gn rfl rfl rfl (by first | rfl | assumption) ?_
        refine AList.gn rfl rfl rfl (by first | rfl | assumption) ?_
        refine AList.gn rfl rfl rfl (by first | rfl | assumption) ?_
        refine AList.p rfl (pure_pickT (.tmp _ _ rfl) (by first | rfl | assumption) ev_bool) ?_
        refine AList.nil ?_
        refine Next.go ?_
        -- c0
        refine AWP.cond_true (.tmp _ _ rfl) (by first | rfl | assumption | exact decide_eq_true (by assumption)) ?_
        refine AWP.seq ?_
        -- region 2
        refine AWP.region ?_
        refine AList.p rfl (pure_assign ev_bool) ?_
        refine AList.nil ?_
        refine Next.go ?_
        refine AWP.ret ?_
        refine Next.rt ?_
        -- ret 2
        refine Ret.go (.cons (.tmp _ _ rfl) .nil) _ (Heap.le.refl _) ?_
        refine ⟨?_, rfl⟩
        first | exact fname_t (by assumption) (by assumption) (by assumption) (by assumption) (by assumption) | exact fname_f (.inl (by assumption)) | exact fname_f (.inr (.inr (.inr (.inr (by assumption))))) | exact fname_f (.inr (.inl (by assumption))) | exact fname_f (.inr (.inr (.inl (by assumption)))) | exact fname_f (.inr (.inr (.inr (.inl (by assumption)))))
      · have hh17 := hg17; try simp only [decide_eq_false_iff_not, Int.not_lt] at hh17
        refine AList.gp rfl rfl rfl (by first | rfl | assumption) (pure_move (.tmp _ _ rfl)) ?_
        refine AList.gp rfl rfl rfl (by first | rfl | assumption) (pure_indexStr Tryz.underlying9 (.tmp _ _ rfl) ev_int (by first | omega | (have h9 := List.length_pos_iff.2 (show s ≠ [] by assumption); omega)) (by first | omega | (have h9 := List.length_pos_iff.2 (show s ≠ [] by assumption); omega))) ?_
        refine AList.gp rfl rfl rfl (by first | rfl | assumption) (pure_gtr (.tmp _ _ rfl) ev_int) ?_
        refine AList.p rfl (pure_pickF (.tmp _ _ rfl) (by first | rfl | assumption) (.tmp _ _ rfl)) ?_
        refine AList.nil ?_
        refine Next.go ?_
        -- c0
        refine AWP.cond (.tmp _ _ rfl) (fun hc21 => ?_) (fun hc21 => ?_)
        · try simp only [decide_eq_true_eq] at hc21
          refine AWP.seq ?_
          -- region 2
          refine AWP.region ?_
          refine AList.p rfl (pure_assign ev_bool) ?_
          refine AList.nil ?_
          refine Next.go ?_
          refine AWP.ret ?_
          refine Next.rt ?_
          -- ret 3
          refine Ret.go (.cons (.tmp _ _ rfl) .nil) _ (Heap.le.refl _) ?_
          refine ⟨?_, rfl⟩
          first | exact fname_t (by assumption) (by assumption) (by assumption) (by assumption) (by assumption) | exact fname_f (.inl (by assumption)) | exact fname_f (.inr (.inr (.inr (.inr (by assumption))))) | exact fname_f (.inr (.inl (by assumption))) | exact fname_f (.inr (.inr (.inl (by assumption)))) | exact fname_f (.inr (.inr (.inr (.inl (by assumption)))))
        · try simp only [decide_eq_false_iff_not, Int.not_lt] at hc21
          refine AWP.skip ?_
          refine Next.go ?_
          refine AWP.seq ?_
          refine AWP.seq ?_
          -- region 3
          refine AWP.region ?_
          refine AList.p rfl (pure_assign ev_int) ?_
          refine AList.nil ?_
          refine Next.go ?_
          refine AWP.block ?_
          -- L0
          refine AWP.loopW (name_J s H) (s.length) ⟨0, Nat.zero_le _, rfl, rfl, rfl, rfl⟩ (sub_c rfl (sub_c rfl sub_n)) (Heap.le.refl _) ?_
          rintro _ _ _ ⟨i, hi, hno, rfl, rfl, rfl⟩
          refine AWP.seq ?_
          refine AWP.seq ?_
          -- region 4
          refine AWP.region ?_
          refine AList.p rfl (pure_move (.tmp _ _ rfl)) ?_
          refine AList.p rfl (pure_move (.tmp _ _ rfl)) ?_
          refine AList.p rfl (pure_lenStr Tryz.underlying9 (.tmp _ _ rfl)) ?_
          refine AList.p rfl (pure_lss (.tmp _ _ rfl) (.tmp _ _ rfl)) ?_
          refine AList.nil ?_
          refine Next.go ?_
          -- c1
          refine AWP.cond (.tmp _ _ rfl) (fun hc25 => ?_) (fun hc25 => ?_)
          · try simp only [decide_eq_true_eq] at hc25
            have hil : i < s.length := by have h8 : (i : Int) < (s.length : Int) := hc25; omega
            refine AWP.skip ?_
            refine Next.go ?_
            refine AWP.seq ?_
            refine AWP.block ?_
            refine AWP.seq ?_
            -- region 6
            refine AWP.region ?_
            refine AList.p rfl (pure_move (.tmp _ _ rfl)) ?_
            refine AList.p rfl (pure_move (.tmp _ _ rfl)) ?_
            refine AList.p rfl (pure_indexStr Tryz.underlying9 (.tmp _ _ rfl) (.tmp _ _ rfl) (by first | omega | (have h8 : (i : Int) < (s.length : Int) := hc25; omega)) (by first | omega | (have h8 : (i : Int) < (s.length : Int) := hc25; omega))) ?_
            refine AList.p rfl (pure_assign (.tmp _ _ rfl)) ?_
            refine AList.nil ?_
            refine Next.go ?_
            refine AWP.seq ?_
            -- region 7
            refine AWP.region ?_
            refine AList.p rfl (pure_move (.tmp _ _ rfl)) ?_
            refine AList.p rfl (pure_lss (.tmp _ _ rfl) ev_int) ?_
            refine AList.p rfl (pure_move (.tmp _ _ rfl)) ?_
            refine AList.lz1 rfl rfl rfl (fun z => pure_move (.tmp _ _ rfl)) ?_
            refine AList.lz1 rfl rfl rfl (fun z => pure_gtr (.lz rfl z) ev_int) ?_
            refine AList.p rfl (pure_pickO (.tmp _ _ rfl) rfl) ?_
            refine AList.p rfl (pure_move (.tmp _ _ rfl)) ?_
            refine AList.lz1 rfl rfl rfl (fun z => pure_move (.tmp _ _ rfl)) ?_
            refine AList.lz1 rfl rfl rfl (fun z => pure_lss (.lz rfl z) ev_int) ?_
            refine AList.lz1 rfl rfl rfl (fun z => pure_move (.lz rfl z)) ?_
            refine AList.lz2 rfl rfl rfl (fun z => pure_move (.tmp _ _ rfl)) ?_
            refine AList.lz2 rfl rfl rfl (fun z => pure_gtr (.lz rfl z) ev_int) ?_
            refine AList.lz1 rfl rfl rfl (fun z => pure_pickO2 z (.lz rfl z) rfl) ?_
            refine AList.p rfl (pure_pickA (.tmp _ _ rfl) rfl) ?_
            refine AList.p rfl (pure_move (.tmp _ _ rfl)) ?_
            refine AList.lz1 rfl rfl rfl (fun z => pure_move (.tmp _ _ rfl)) ?_
            refine AList.lz1 rfl rfl rfl (fun z => pure_neq (.lz rfl z) ev_int) ?_
            refine AList.p rfl (pure_pickA (.tmp _ _ rfl) rfl) ?_
            refine AList.p rfl (pure_move (.tmp _ _ rfl)) ?_
            refine AList.lz1 rfl rfl rfl (fun z => pure_move (.tmp _ _ rfl)) ?_
            refine AList.lz1 rfl rfl rfl (fun z => pure_neq (.lz rfl z) ev_int) ?_
            refine AList.p rfl (pure_pickA (.tmp _ _ rfl) rfl) ?_
            refine AList.nil ?_
            refine Next.go ?_
            -- c2
            refine AWP.cond (.tmp _ _ rfl) (fun hc52 => ?_) (fun hc52 => ?_)
            · try simp only [ne_eq] at hc52
              have hb : okc (s.getD i 0) = false := by unfold okc; refine decide_eq_false ?_; simp at hc52 ⊢; omega
              have hall := all_no hil hb
              refine AWP.seq ?_
              -- region 8
              refine AWP.region ?_
              refine AList.p rfl (pure_assign ev_bool) ?_
              refine AList.nil ?_
              refine Next.go ?_
              refine AWP.ret ?_
              refine Block.rt ?_
              refine Next.rt ?_
              refine Next.rt ?_
              refine Block.rt ?_
              refine Next.rt ?_
              -- ret 4
              refine Ret.go (.cons (.tmp _ _ rfl) .nil) _ (Heap.le.refl _) ?_
              refine ⟨?_, rfl⟩
              first | exact fname_t (by assumption) (by assumption) (by assumption) (by assumption) (by assumption) | exact fname_f (.inl (by assumption)) | exact fname_f (.inr (.inr (.inr (.inr (by assumption))))) | exact fname_f (.inr (.inl (by assumption))) | exact fname_f (.inr (.inr (.inl (by assumption)))) | exact fname_f (.inr (.inr (.inr (.inl (by assumption)))))
            · try simp only [ne_eq] at hc52
              have hb : okc (s.getD i 0) = true := by unfold okc; refine decide_eq_true ?_; simp at hc52 ⊢; omega
              refine AWP.skip ?_
              refine Block.go ?_
              refine Next.go ?_
              -- region 5
              refine AWP.region ?_
              refine AList.p rfl (pure_move (.tmp _ _ rfl)) ?_
              refine AList.p rfl (pure_add (.tmp _ _ rfl) ev_int (by omega)) ?_
              refine AList.p rfl (pure_assign (.tmp _ _ rfl)) ?_
              refine AList.nil ?_
              refine Next.go ?_
              refine Round.mk (J := name_J s H) ⟨i + 1, by omega, all_take hno hil hb, rfl, rfl, rfl⟩ (sub_c rfl (sub_c rfl sub_n)) (Heap.le.refl _) (by omega)
          · try simp only [decide_eq_false_iff_not, Int.not_lt] at hc25
            have hil : s.length ≤ i := by have h8 : (s.length : Int) ≤ (i : Int) := hc25; omega
            have hall := all_yes hno hil
            refine AWP.exit ?_
            refine Next.ex ?_
            refine Next.ex ?_
            refine Block.hit ?_
            refine Next.go ?_
            refine AWP.seq ?_
            -- region 9
            refine AWP.region ?_
            refine AList.p rfl (pure_assign ev_bool) ?_
            refine AList.nil ?_
            refine Next.go ?_
            refine AWP.ret ?_
            -- ret 5
            refine Ret.go (.cons (.tmp _ _ rfl) .nil) _ (Heap.le.refl _) ?_
            refine ⟨?_, rfl⟩
            first | exact fname_t (by assumption) (by assumption) (by assumption) (by assumption) (by assumption) | exact fname_f (.inl (by assumption)) | exact fname_f (.inr (.inr (.inr (.inr (by assumption))))) | exact fname_f (.inr (.inl (by assumption))) | exact fname_f (.inr (.inr (.inl (by assumption)))) | exact fname_f (.inr (.inr (.inr (.inl (by assumption)))))

end Go.Proofs.YthhcdmmihjhipaaGreatDoor
