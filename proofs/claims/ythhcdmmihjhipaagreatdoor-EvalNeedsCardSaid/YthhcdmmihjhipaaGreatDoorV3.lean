/-
  A node: what the program and the document find right.
-/
import Derived.Test.YthhcdmmihjhipaaGreatDoorV2
namespace Go.Proofs.YthhcdmmihjhipaaGreatDoor
open Go Go.RowKit

theorem nat0 (n : Nat) : ((n : Int) = 0) = (n = 0) := propext (by omega)
theorem nat1 (n : Nat) : ((n : Int) = 1) = (n = 1) := propext (by omega)
theorem nat2 (n : Nat) : ((n : Int) = 2) = (n = 2) := propext (by omega)
theorem nat30 (n : Nat) : ((n : Int) ≤ 30) = (n ≤ 30) := propext (by omega)
theorem nat1000 (n : Nat) : ((n : Int) ≤ 1000) = (n ≤ 1000) := propext (by omega)

set_option maxRecDepth 100000 in
theorem node_calls (k b : Int) (s : List UInt8) (i : Bool) (f : Int) (p q : Pt) (ks : List Ex) (_ : s.length ≤ maxLen) (_ : ks.length ≤ maxLen) (H : Heap) : ACall Tryz.prog 62 [ndv k b s i f p q ks] H (fun y H' => y = .bool (nodeOK k b s i f p q ks.length) ∧ H' = H) := by
  have hml := maxLen_eq
  refine ACall.of_body Tryz.func62 rfl Tryz.ntmps62 Tryz.results62 rfl ?_
  refine AWP.seq ?_
  -- region 0
  refine AWP.region ?_
  refine AList.s rfl (step_boxI (.tmp _ _ rfl) (.inr ⟨_, rfl⟩)) ?_
  rintro _ _ ⟨rfl, hH⟩
  obtain rfl := hH.symm
  refine AList.p rfl (pure_assign ev_bool) ?_
  refine AList.nil ?_
  refine Next.go ?_
  refine AWP.seq ?_
  -- region 1
  refine AWP.region ?_
  first | (refine AList.p rfl (pure_fieldI Tryz.underlying27 rfl Tryz.sizeOf25 (.tmp _ _ rfl)) ?_) | (refine AList.p rfl (pure_field Tryz.underlying27 rfl Tryz.sizeOf25 (.tmp _ _ rfl)) ?_)
  first | (refine AList.p rfl (pure_load1 Tryz.isAgg25 (.tmp _ _ rfl)) ?_) | (refine AList.s rfl (step_load1 Tryz.isAgg25 (.tmp _ _ rfl) (by first | assumption | exact (by assumption : Heap.le _ _).objs _ _ (by assumption) | exact Heap.objs_set_same _ _ _ | exact (Heap.objs_set_ne _ _ (by assumption)).trans (Heap.objs_set_same _ _ _) | exact (Heap.objs_set_ne _ _ (by assumption)).trans ((Heap.objs_set_ne _ _ (by assumption)).trans (Heap.objs_set_same _ _ _)) | exact (Heap.objs_set_ne _ _ (by assumption)).trans (by assumption)) rfl) ?_; rintro _ _ ⟨rfl, hH⟩; obtain rfl := hH.symm)
  first | (refine AList.p rfl (pure_lenL Tryz.underlying25 (.tmp _ _ rfl)) ?_) | (refine AList.p rfl (pure_lenS Tryz.underlying25 (.tmp _ _ rfl)) ?_) | (refine AList.p rfl (pure_lenM Tryz.underlying25 (.tmp _ _ rfl)) ?_)
  refine AList.p rfl (pure_assign (.tmp _ _ rfl)) ?_
  refine AList.nil ?_
  refine Next.go ?_
  refine AWP.seq ?_
  refine AWP.seq ?_
  -- region 2
  refine AWP.region ?_
  first | (refine AList.p rfl (pure_fieldI Tryz.underlying27 rfl Tryz.sizeOf3 (.tmp _ _ rfl)) ?_) | (refine AList.p rfl (pure_field Tryz.underlying27 rfl Tryz.sizeOf3 (.tmp _ _ rfl)) ?_)
  first | (refine AList.p rfl (pure_load1 Tryz.isAgg3 (.tmp _ _ rfl)) ?_) | (refine AList.s rfl (step_load1 Tryz.isAgg3 (.tmp _ _ rfl) (by first | assumption | exact (by assumption : Heap.le _ _).objs _ _ (by assumption) | exact Heap.objs_set_same _ _ _ | exact (Heap.objs_set_ne _ _ (by assumption)).trans (Heap.objs_set_same _ _ _) | exact (Heap.objs_set_ne _ _ (by assumption)).trans ((Heap.objs_set_ne _ _ (by assumption)).trans (Heap.objs_set_same _ _ _)) | exact (Heap.objs_set_ne _ _ (by assumption)).trans (by assumption)) rfl) ?_; rintro _ _ ⟨rfl, hH⟩; obtain rfl := hH.symm)
  refine AList.nil ?_
  refine Next.go ?_
  refine AWP.block ?_
  refine AWP.seq ?_
  -- region 3
  refine AWP.region ?_
  refine AList.p rfl (pure_eql (.tmp _ _ rfl) ev_int) ?_
  refine AList.p rfl (pure_assign (.tmp _ _ rfl)) ?_
  refine AList.nil ?_
  refine Next.go ?_
  -- c0
  refine AWP.cond (.tmp _ _ rfl) (fun hc9 => ?_) (fun hc9 => ?_)
  · try simp only [decide_eq_true_eq] at hc9
    refine AWP.seq ?_
    -- region 4
    refine AWP.region ?_
    refine AList.p rfl (pure_move (.tmp _ _ rfl)) ?_
    refine AList.p rfl (pure_eql (.tmp _ _ rfl) ev_int) ?_
    refine AList.p rfl (pure_move (.tmp _ _ rfl)) ?_
    first | (refine AList.lz1 rfl rfl rfl (fun z => pure_fieldI Tryz.underlying27 rfl Tryz.sizeOf22 (.tmp _ _ rfl)) ?_) | (refine AList.lz1 rfl rfl rfl (fun z => pure_field Tryz.underlying27 rfl Tryz.sizeOf22 (.tmp _ _ rfl)) ?_)
    first | (refine AList.lz1 rfl rfl rfl (fun z => pure_load1 Tryz.isAgg22 (.lz rfl z)) ?_) | (refine AList.ls1 rfl rfl rfl (fun z => step_load1 Tryz.isAgg22 (.lz rfl z) (by first | assumption | exact (by assumption : Heap.le _ _).objs _ _ (by assumption) | exact Heap.objs_set_same _ _ _ | exact (Heap.objs_set_ne _ _ (by assumption)).trans (Heap.objs_set_same _ _ _) | exact (Heap.objs_set_ne _ _ (by assumption)).trans ((Heap.objs_set_ne _ _ (by assumption)).trans (Heap.objs_set_same _ _ _)) | exact (Heap.objs_set_ne _ _ (by assumption)).trans (by assumption)) rfl) ?_)
    refine AList.lz1 rfl rfl rfl (fun z => pure_lss (.lz rfl z) ev_int) ?_
    refine AList.p rfl (pure_pickA (.tmp _ _ rfl) rfl) ?_
    refine AList.p rfl (pure_move (.tmp _ _ rfl)) ?_
    first | (refine AList.lz1 rfl rfl rfl (fun z => pure_loadN Tryz.isAgg27 Tryz.sizeOf27 (.tmp _ _ rfl) (Nat.le_of_ble_eq_true rfl)) ?_) | (refine AList.ls1 rfl rfl rfl (fun z => step_loadN Tryz.isAgg27 Tryz.sizeOf27 (.tmp _ _ rfl) (by first | assumption | exact (by assumption : Heap.le _ _).objs _ _ (by assumption) | exact Heap.objs_set_same _ _ _ | exact (Heap.objs_set_ne _ _ (by assumption)).trans (Heap.objs_set_same _ _ _) | exact (Heap.objs_set_ne _ _ (by assumption)).trans ((Heap.objs_set_ne _ _ (by assumption)).trans (Heap.objs_set_same _ _ _)) | exact (Heap.objs_set_ne _ _ (by assumption)).trans (by assumption)) (Nat.le_of_ble_eq_true rfl)) ?_)
    first | (refine AList.lz1 rfl rfl rfl (fun z => pure_fieldI Tryz.underlying27 rfl Tryz.sizeOf22 (.tmp _ _ rfl)) ?_) | (refine AList.lz1 rfl rfl rfl (fun z => pure_field Tryz.underlying27 rfl Tryz.sizeOf22 (.tmp _ _ rfl)) ?_)
    first | (refine AList.lz1 rfl rfl rfl (fun z => pure_load1 Tryz.isAgg22 (.lz rfl z)) ?_) | (refine AList.ls1 rfl rfl rfl (fun z => step_load1 Tryz.isAgg22 (.lz rfl z) (by first | assumption | exact (by assumption : Heap.le _ _).objs _ _ (by assumption) | exact Heap.objs_set_same _ _ _ | exact (Heap.objs_set_ne _ _ (by assumption)).trans (Heap.objs_set_same _ _ _) | exact (Heap.objs_set_ne _ _ (by assumption)).trans ((Heap.objs_set_ne _ _ (by assumption)).trans (Heap.objs_set_same _ _ _)) | exact (Heap.objs_set_ne _ _ (by assumption)).trans (by assumption)) rfl) ?_)
    refine AList.lz1 rfl rfl rfl (fun z => pure_build [(0, 1), (1, 1), (2, 1), (3, 1), (4, 1), (5, 4), (9, 4), (13, 1)] Tryz.underlying27 Tryz.zeroValue27 (zr27) rfl (pl27 _ Tryz.underlying27) (.cons (.lz rfl z) (.inl rfl) .nil) rfl) ?_
    refine AList.ls1 rfl rfl rfl (fun z => step_call0 Tryz.call94 (.cons (.lz rfl z) (.cons (.lz rfl z) .nil)) (bare_calls k b s i f p q ks (b) ([]) (false) (0) (Pt.z) (Pt.z) _)) ?_
    refine AList.p rfl (pure_pickA (.tmp _ _ rfl) rfl) ?_
    refine AList.p rfl (pure_assign (.tmp _ _ rfl)) ?_
    refine AList.nil ?_
    refine Next.go ?_
    refine AWP.ret ?_
    refine Block.rt ?_
    refine Next.rt ?_
    -- ret 0
    refine Ret.go (.cons (.tmp _ _ rfl) .nil) _ (Heap.le.refl _) ?_
    refine ⟨?_, rfl⟩
    unfold nodeOK
    simp_all [packed]
    all_goals grind
  · try simp only [decide_eq_false_iff_not] at hc9
    refine AWP.seq ?_
    -- region 5
    refine AWP.region ?_
    refine AList.p rfl (pure_eql (.tmp _ _ rfl) ev_int) ?_
    refine AList.p rfl (pure_assign (.tmp _ _ rfl)) ?_
    refine AList.nil ?_
    refine Next.go ?_
    -- c1
    refine AWP.cond (.tmp _ _ rfl) (fun hc25 => ?_) (fun hc25 => ?_)
    · try simp only [decide_eq_true_eq] at hc25
      refine AWP.seq ?_
      -- region 6
      refine AWP.region ?_
      refine AList.p rfl (pure_move (.tmp _ _ rfl)) ?_
      refine AList.p rfl (pure_eql (.tmp _ _ rfl) ev_int) ?_
      refine AList.p rfl (pure_move (.tmp _ _ rfl)) ?_
      first | (refine AList.lz1 rfl rfl rfl (fun z => pure_fieldI Tryz.underlying27 rfl Tryz.sizeOf9 (.tmp _ _ rfl)) ?_) | (refine AList.lz1 rfl rfl rfl (fun z => pure_field Tryz.underlying27 rfl Tryz.sizeOf9 (.tmp _ _ rfl)) ?_)
      first | (refine AList.lz1 rfl rfl rfl (fun z => pure_load1 Tryz.isAgg9 (.lz rfl z)) ?_) | (refine AList.ls1 rfl rfl rfl (fun z => step_load1 Tryz.isAgg9 (.lz rfl z) (by first | assumption | exact (by assumption : Heap.le _ _).objs _ _ (by assumption) | exact Heap.objs_set_same _ _ _ | exact (Heap.objs_set_ne _ _ (by assumption)).trans (Heap.objs_set_same _ _ _) | exact (Heap.objs_set_ne _ _ (by assumption)).trans ((Heap.objs_set_ne _ _ (by assumption)).trans (Heap.objs_set_same _ _ _)) | exact (Heap.objs_set_ne _ _ (by assumption)).trans (by assumption)) rfl) ?_)
      refine AList.lz1 rfl rfl rfl (fun z => pure_lenStr Tryz.underlying9 (.lz rfl z)) ?_
      refine AList.lz1 rfl rfl rfl (fun z => pure_leq (.lz rfl z) ev_int) ?_
      refine AList.p rfl (pure_pickA (.tmp _ _ rfl) rfl) ?_
      refine AList.p rfl (pure_move (.tmp _ _ rfl)) ?_
      first | (refine AList.lz1 rfl rfl rfl (fun z => pure_loadN Tryz.isAgg27 Tryz.sizeOf27 (.tmp _ _ rfl) (Nat.le_of_ble_eq_true rfl)) ?_) | (refine AList.ls1 rfl rfl rfl (fun z => step_loadN Tryz.isAgg27 Tryz.sizeOf27 (.tmp _ _ rfl) (by first | assumption | exact (by assumption : Heap.le _ _).objs _ _ (by assumption) | exact Heap.objs_set_same _ _ _ | exact (Heap.objs_set_ne _ _ (by assumption)).trans (Heap.objs_set_same _ _ _) | exact (Heap.objs_set_ne _ _ (by assumption)).trans ((Heap.objs_set_ne _ _ (by assumption)).trans (Heap.objs_set_same _ _ _)) | exact (Heap.objs_set_ne _ _ (by assumption)).trans (by assumption)) (Nat.le_of_ble_eq_true rfl)) ?_)
      first | (refine AList.lz1 rfl rfl rfl (fun z => pure_fieldI Tryz.underlying27 rfl Tryz.sizeOf9 (.tmp _ _ rfl)) ?_) | (refine AList.lz1 rfl rfl rfl (fun z => pure_field Tryz.underlying27 rfl Tryz.sizeOf9 (.tmp _ _ rfl)) ?_)
      first | (refine AList.lz1 rfl rfl rfl (fun z => pure_load1 Tryz.isAgg9 (.lz rfl z)) ?_) | (refine AList.ls1 rfl rfl rfl (fun z => step_load1 Tryz.isAgg9 (.lz rfl z) (by first | assumption | exact (by assumption : Heap.le _ _).objs _ _ (by assumption) | exact Heap.objs_set_same _ _ _ | exact (Heap.objs_set_ne _ _ (by assumption)).trans (Heap.objs_set_same _ _ _) | exact (Heap.objs_set_ne _ _ (by assumption)).trans ((Heap.objs_set_ne _ _ (by assumption)).trans (Heap.objs_set_same _ _ _)) | exact (Heap.objs_set_ne _ _ (by assumption)).trans (by assumption)) rfl) ?_)
      refine AList.lz1 rfl rfl rfl (fun z => pure_build [(0, 1), (1, 1), (2, 1), (3, 1), (4, 1), (5, 4), (9, 4), (13, 1)] Tryz.underlying27 Tryz.zeroValue27 (zr27) rfl (pl27 _ Tryz.underlying27) (.cons (.lz rfl z) (.inl rfl) .nil) rfl) ?_
      refine AList.ls1 rfl rfl rfl (fun z => step_call0 Tryz.call94 (.cons (.lz rfl z) (.cons (.lz rfl z) .nil)) (bare_calls k b s i f p q ks (0) (s) (false) (0) (Pt.z) (Pt.z) _)) ?_
      refine AList.p rfl (pure_pickA (.tmp _ _ rfl) rfl) ?_
      refine AList.p rfl (pure_assign (.tmp _ _ rfl)) ?_
      refine AList.nil ?_
      refine Next.go ?_
      refine AWP.ret ?_
      refine Block.rt ?_
      refine Next.rt ?_
      -- ret 1
      refine Ret.go (.cons (.tmp _ _ rfl) .nil) _ (Heap.le.refl _) ?_
      refine ⟨?_, rfl⟩
      unfold nodeOK
      simp_all [packed, nat1000]
      all_goals grind
    · try simp only [decide_eq_false_iff_not] at hc25
      refine AWP.seq ?_
      -- region 7
      refine AWP.region ?_
      refine AList.p rfl (pure_eql (.tmp _ _ rfl) ev_int) ?_
      refine AList.p rfl (pure_assign (.tmp _ _ rfl)) ?_
      refine AList.nil ?_
      refine Next.go ?_
      -- c2
      refine AWP.cond (.tmp _ _ rfl) (fun hc42 => ?_) (fun hc42 => ?_)
      · try simp only [decide_eq_true_eq] at hc42
        refine AWP.seq ?_
        -- region 8
        refine AWP.region ?_
        refine AList.p rfl (pure_move (.tmp _ _ rfl)) ?_
        refine AList.p rfl (pure_eql (.tmp _ _ rfl) ev_int) ?_
        refine AList.p rfl (pure_move (.tmp _ _ rfl)) ?_
        first | (refine AList.lz1 rfl rfl rfl (fun z => pure_loadN Tryz.isAgg27 Tryz.sizeOf27 (.tmp _ _ rfl) (Nat.le_of_ble_eq_true rfl)) ?_) | (refine AList.ls1 rfl rfl rfl (fun z => step_loadN Tryz.isAgg27 Tryz.sizeOf27 (.tmp _ _ rfl) (by first | assumption | exact (by assumption : Heap.le _ _).objs _ _ (by assumption) | exact Heap.objs_set_same _ _ _ | exact (Heap.objs_set_ne _ _ (by assumption)).trans (Heap.objs_set_same _ _ _) | exact (Heap.objs_set_ne _ _ (by assumption)).trans ((Heap.objs_set_ne _ _ (by assumption)).trans (Heap.objs_set_same _ _ _)) | exact (Heap.objs_set_ne _ _ (by assumption)).trans (by assumption)) (Nat.le_of_ble_eq_true rfl)) ?_)
        first | (refine AList.lz1 rfl rfl rfl (fun z => pure_fieldI Tryz.underlying27 rfl Tryz.sizeOf4 (.tmp _ _ rfl)) ?_) | (refine AList.lz1 rfl rfl rfl (fun z => pure_field Tryz.underlying27 rfl Tryz.sizeOf4 (.tmp _ _ rfl)) ?_)
        first | (refine AList.lz1 rfl rfl rfl (fun z => pure_load1 Tryz.isAgg4 (.lz rfl z)) ?_) | (refine AList.ls1 rfl rfl rfl (fun z => step_load1 Tryz.isAgg4 (.lz rfl z) (by first | assumption | exact (by assumption : Heap.le _ _).objs _ _ (by assumption) | exact Heap.objs_set_same _ _ _ | exact (Heap.objs_set_ne _ _ (by assumption)).trans (Heap.objs_set_same _ _ _) | exact (Heap.objs_set_ne _ _ (by assumption)).trans ((Heap.objs_set_ne _ _ (by assumption)).trans (Heap.objs_set_same _ _ _)) | exact (Heap.objs_set_ne _ _ (by assumption)).trans (by assumption)) rfl) ?_)
        refine AList.lz1 rfl rfl rfl (fun z => pure_build [(0, 1), (1, 1), (2, 1), (3, 1), (4, 1), (5, 4), (9, 4), (13, 1)] Tryz.underlying27 Tryz.zeroValue27 (zr27) rfl (pl27 _ Tryz.underlying27) (.cons (.lz rfl z) (.inl rfl) .nil) rfl) ?_
        refine AList.ls1 rfl rfl rfl (fun z => step_call0 Tryz.call94 (.cons (.lz rfl z) (.cons (.lz rfl z) .nil)) (bare_calls k b s i f p q ks (0) ([]) (i) (0) (Pt.z) (Pt.z) _)) ?_
        refine AList.p rfl (pure_pickA (.tmp _ _ rfl) rfl) ?_
        refine AList.p rfl (pure_assign (.tmp _ _ rfl)) ?_
        refine AList.nil ?_
        refine Next.go ?_
        refine AWP.ret ?_
        refine Block.rt ?_
        refine Next.rt ?_
        -- ret 2
        refine Ret.go (.cons (.tmp _ _ rfl) .nil) _ (Heap.le.refl _) ?_
        refine ⟨?_, rfl⟩
        unfold nodeOK
        simp_all [packed]
        all_goals grind
      · try simp only [decide_eq_false_iff_not] at hc42
        refine AWP.seq ?_
        -- region 9
        refine AWP.region ?_
        refine AList.p rfl (pure_eql (.tmp _ _ rfl) ev_int) ?_
        refine AList.p rfl (pure_assign (.tmp _ _ rfl)) ?_
        refine AList.nil ?_
        refine Next.go ?_
        -- c3
        refine AWP.cond (.tmp _ _ rfl) (fun hc53 => ?_) (fun hc53 => ?_)
        · try simp only [decide_eq_true_eq] at hc53
          refine AWP.seq ?_
          -- region 10
          refine AWP.region ?_
          refine AList.p rfl (pure_move (.tmp _ _ rfl)) ?_
          refine AList.p rfl (pure_eql (.tmp _ _ rfl) ev_int) ?_
          refine AList.p rfl (pure_move (.tmp _ _ rfl)) ?_
          first | (refine AList.lz1 rfl rfl rfl (fun z => pure_fieldI Tryz.underlying27 rfl Tryz.sizeOf3 (.tmp _ _ rfl)) ?_) | (refine AList.lz1 rfl rfl rfl (fun z => pure_field Tryz.underlying27 rfl Tryz.sizeOf3 (.tmp _ _ rfl)) ?_)
          first | (refine AList.lz1 rfl rfl rfl (fun z => pure_load1 Tryz.isAgg3 (.lz rfl z)) ?_) | (refine AList.ls1 rfl rfl rfl (fun z => step_load1 Tryz.isAgg3 (.lz rfl z) (by first | assumption | exact (by assumption : Heap.le _ _).objs _ _ (by assumption) | exact Heap.objs_set_same _ _ _ | exact (Heap.objs_set_ne _ _ (by assumption)).trans (Heap.objs_set_same _ _ _) | exact (Heap.objs_set_ne _ _ (by assumption)).trans ((Heap.objs_set_ne _ _ (by assumption)).trans (Heap.objs_set_same _ _ _)) | exact (Heap.objs_set_ne _ _ (by assumption)).trans (by assumption)) rfl) ?_)
          refine AList.ls1 rfl rfl rfl (fun z => step_call0 Tryz.call49 (.cons (.lz rfl z) .nil) (FailName_calls _ _)) ?_
          refine AList.lz1 rfl rfl rfl (fun z => pure_neqStr (.lz rfl z) (ev_str rfl)) ?_
          refine AList.p rfl (pure_pickA (.tmp _ _ rfl) rfl) ?_
          refine AList.p rfl (pure_move (.tmp _ _ rfl)) ?_
          first | (refine AList.lz1 rfl rfl rfl (fun z => pure_loadN Tryz.isAgg27 Tryz.sizeOf27 (.tmp _ _ rfl) (Nat.le_of_ble_eq_true rfl)) ?_) | (refine AList.ls1 rfl rfl rfl (fun z => step_loadN Tryz.isAgg27 Tryz.sizeOf27 (.tmp _ _ rfl) (by first | assumption | exact (by assumption : Heap.le _ _).objs _ _ (by assumption) | exact Heap.objs_set_same _ _ _ | exact (Heap.objs_set_ne _ _ (by assumption)).trans (Heap.objs_set_same _ _ _) | exact (Heap.objs_set_ne _ _ (by assumption)).trans ((Heap.objs_set_ne _ _ (by assumption)).trans (Heap.objs_set_same _ _ _)) | exact (Heap.objs_set_ne _ _ (by assumption)).trans (by assumption)) (Nat.le_of_ble_eq_true rfl)) ?_)
          first | (refine AList.lz1 rfl rfl rfl (fun z => pure_fieldI Tryz.underlying27 rfl Tryz.sizeOf3 (.tmp _ _ rfl)) ?_) | (refine AList.lz1 rfl rfl rfl (fun z => pure_field Tryz.underlying27 rfl Tryz.sizeOf3 (.tmp _ _ rfl)) ?_)
          first | (refine AList.lz1 rfl rfl rfl (fun z => pure_load1 Tryz.isAgg3 (.lz rfl z)) ?_) | (refine AList.ls1 rfl rfl rfl (fun z => step_load1 Tryz.isAgg3 (.lz rfl z) (by first | assumption | exact (by assumption : Heap.le _ _).objs _ _ (by assumption) | exact Heap.objs_set_same _ _ _ | exact (Heap.objs_set_ne _ _ (by assumption)).trans (Heap.objs_set_same _ _ _) | exact (Heap.objs_set_ne _ _ (by assumption)).trans ((Heap.objs_set_ne _ _ (by assumption)).trans (Heap.objs_set_same _ _ _)) | exact (Heap.objs_set_ne _ _ (by assumption)).trans (by assumption)) rfl) ?_)
          refine AList.lz1 rfl rfl rfl (fun z => pure_build [(0, 1), (1, 1), (2, 1), (3, 1), (4, 1), (5, 4), (9, 4), (13, 1)] Tryz.underlying27 Tryz.zeroValue27 (zr27) rfl (pl27 _ Tryz.underlying27) (.cons (.lz rfl z) (.inl rfl) .nil) rfl) ?_
          refine AList.ls1 rfl rfl rfl (fun z => step_call0 Tryz.call94 (.cons (.lz rfl z) (.cons (.lz rfl z) .nil)) (bare_calls k b s i f p q ks (0) ([]) (false) (f) (Pt.z) (Pt.z) _)) ?_
          refine AList.p rfl (pure_pickA (.tmp _ _ rfl) rfl) ?_
          refine AList.p rfl (pure_assign (.tmp _ _ rfl)) ?_
          refine AList.nil ?_
          refine Next.go ?_
          refine AWP.ret ?_
          refine Block.rt ?_
          refine Next.rt ?_
          -- ret 3
          refine Ret.go (.cons (.tmp _ _ rfl) .nil) _ (Heap.le.refl _) ?_
          refine ⟨?_, rfl⟩
          unfold nodeOK
          simp_all [packed, name_some]
          all_goals grind
        · try simp only [decide_eq_false_iff_not] at hc53
          refine AWP.seq ?_
          -- region 11
          refine AWP.region ?_
          refine AList.p rfl (pure_eql (.tmp _ _ rfl) ev_int) ?_
          refine AList.p rfl (pure_assign (.tmp _ _ rfl)) ?_
          refine AList.nil ?_
          refine Next.go ?_
          -- c4
          refine AWP.cond (.tmp _ _ rfl) (fun hc70 => ?_) (fun hc70 => ?_)
          · try simp only [decide_eq_true_eq] at hc70
            refine AWP.seq ?_
            -- region 12
            refine AWP.region ?_
            refine AList.p rfl (pure_move (.tmp _ _ rfl)) ?_
            refine AList.p rfl (pure_eql (.tmp _ _ rfl) ev_int) ?_
            refine AList.p rfl (pure_move (.tmp _ _ rfl)) ?_
            first | (refine AList.lz1 rfl rfl rfl (fun z => pure_fieldI Tryz.underlying27 rfl Tryz.sizeOf24 (.tmp _ _ rfl)) ?_) | (refine AList.lz1 rfl rfl rfl (fun z => pure_field Tryz.underlying27 rfl Tryz.sizeOf24 (.tmp _ _ rfl)) ?_)
            first | (refine AList.lz1 rfl rfl rfl (fun z => pure_loadN Tryz.isAgg24 Tryz.sizeOf24 (.lz rfl z) (Nat.le_of_ble_eq_true rfl)) ?_) | (refine AList.ls1 rfl rfl rfl (fun z => step_loadN Tryz.isAgg24 Tryz.sizeOf24 (.lz rfl z) (by first | assumption | exact (by assumption : Heap.le _ _).objs _ _ (by assumption) | exact Heap.objs_set_same _ _ _ | exact (Heap.objs_set_ne _ _ (by assumption)).trans (Heap.objs_set_same _ _ _) | exact (Heap.objs_set_ne _ _ (by assumption)).trans ((Heap.objs_set_ne _ _ (by assumption)).trans (Heap.objs_set_same _ _ _)) | exact (Heap.objs_set_ne _ _ (by assumption)).trans (by assumption)) (Nat.le_of_ble_eq_true rfl)) ?_)
            refine AList.ls1 rfl rfl rfl (fun z => step_call0 Tryz.call76 (.cons (.lz rfl z) .nil) (cRight_calls _ _)) ?_
            refine AList.p rfl (pure_pickA (.tmp _ _ rfl) rfl) ?_
            refine AList.p rfl (pure_move (.tmp _ _ rfl)) ?_
            first | (refine AList.lz1 rfl rfl rfl (fun z => pure_loadN Tryz.isAgg27 Tryz.sizeOf27 (.tmp _ _ rfl) (Nat.le_of_ble_eq_true rfl)) ?_) | (refine AList.ls1 rfl rfl rfl (fun z => step_loadN Tryz.isAgg27 Tryz.sizeOf27 (.tmp _ _ rfl) (by first | assumption | exact (by assumption : Heap.le _ _).objs _ _ (by assumption) | exact Heap.objs_set_same _ _ _ | exact (Heap.objs_set_ne _ _ (by assumption)).trans (Heap.objs_set_same _ _ _) | exact (Heap.objs_set_ne _ _ (by assumption)).trans ((Heap.objs_set_ne _ _ (by assumption)).trans (Heap.objs_set_same _ _ _)) | exact (Heap.objs_set_ne _ _ (by assumption)).trans (by assumption)) (Nat.le_of_ble_eq_true rfl)) ?_)
            first | (refine AList.lz1 rfl rfl rfl (fun z => pure_fieldI Tryz.underlying27 rfl Tryz.sizeOf24 (.tmp _ _ rfl)) ?_) | (refine AList.lz1 rfl rfl rfl (fun z => pure_field Tryz.underlying27 rfl Tryz.sizeOf24 (.tmp _ _ rfl)) ?_)
            first | (refine AList.lz1 rfl rfl rfl (fun z => pure_loadN Tryz.isAgg24 Tryz.sizeOf24 (.lz rfl z) (Nat.le_of_ble_eq_true rfl)) ?_) | (refine AList.ls1 rfl rfl rfl (fun z => step_loadN Tryz.isAgg24 Tryz.sizeOf24 (.lz rfl z) (by first | assumption | exact (by assumption : Heap.le _ _).objs _ _ (by assumption) | exact Heap.objs_set_same _ _ _ | exact (Heap.objs_set_ne _ _ (by assumption)).trans (Heap.objs_set_same _ _ _) | exact (Heap.objs_set_ne _ _ (by assumption)).trans ((Heap.objs_set_ne _ _ (by assumption)).trans (Heap.objs_set_same _ _ _)) | exact (Heap.objs_set_ne _ _ (by assumption)).trans (by assumption)) (Nat.le_of_ble_eq_true rfl)) ?_)
            refine AList.lz1 rfl rfl rfl (fun z => pure_build [(0, 1), (1, 1), (2, 1), (3, 1), (4, 1), (5, 4), (9, 4), (13, 1)] Tryz.underlying27 Tryz.zeroValue27 (zr27) rfl (pl27 _ Tryz.underlying27) (.cons (.lz rfl z) (.inr ⟨_, rfl⟩) .nil) rfl) ?_
            refine AList.ls1 rfl rfl rfl (fun z => step_call0 Tryz.call94 (.cons (.lz rfl z) (.cons (.lz rfl z) .nil)) (bare_calls k b s i f p q ks (0) ([]) (false) (0) (p) (Pt.z) _)) ?_
            refine AList.p rfl (pure_pickA (.tmp _ _ rfl) rfl) ?_
            refine AList.p rfl (pure_assign (.tmp _ _ rfl)) ?_
            refine AList.nil ?_
            refine Next.go ?_
            refine AWP.ret ?_
            refine Block.rt ?_
            refine Next.rt ?_
            -- ret 4
            refine Ret.go (.cons (.tmp _ _ rfl) .nil) _ (Heap.le.refl _) ?_
            refine ⟨?_, rfl⟩
            unfold nodeOK
            simp_all [packed]
            all_goals grind
          · try simp only [decide_eq_false_iff_not] at hc70
            refine AWP.seq ?_
            -- region 13
            refine AWP.region ?_
            refine AList.p rfl (pure_eql (.tmp _ _ rfl) ev_int) ?_
            refine AList.p rfl (pure_assign (.tmp _ _ rfl)) ?_
            refine AList.nil ?_
            refine Next.go ?_
            -- c5
            refine AWP.cond (.tmp _ _ rfl) (fun hc86 => ?_) (fun hc86 => ?_)
            · try simp only [decide_eq_true_eq] at hc86
              refine AWP.seq ?_
              -- region 14
              refine AWP.region ?_
              refine AList.p rfl (pure_move (.tmp _ _ rfl)) ?_
              refine AList.p rfl (pure_eql (.tmp _ _ rfl) ev_int) ?_
              refine AList.p rfl (pure_move (.tmp _ _ rfl)) ?_
              first | (refine AList.lz1 rfl rfl rfl (fun z => pure_fieldI Tryz.underlying27 rfl Tryz.sizeOf24 (.tmp _ _ rfl)) ?_) | (refine AList.lz1 rfl rfl rfl (fun z => pure_field Tryz.underlying27 rfl Tryz.sizeOf24 (.tmp _ _ rfl)) ?_)
              first | (refine AList.lz1 rfl rfl rfl (fun z => pure_loadN Tryz.isAgg24 Tryz.sizeOf24 (.lz rfl z) (Nat.le_of_ble_eq_true rfl)) ?_) | (refine AList.ls1 rfl rfl rfl (fun z => step_loadN Tryz.isAgg24 Tryz.sizeOf24 (.lz rfl z) (by first | assumption | exact (by assumption : Heap.le _ _).objs _ _ (by assumption) | exact Heap.objs_set_same _ _ _ | exact (Heap.objs_set_ne _ _ (by assumption)).trans (Heap.objs_set_same _ _ _) | exact (Heap.objs_set_ne _ _ (by assumption)).trans ((Heap.objs_set_ne _ _ (by assumption)).trans (Heap.objs_set_same _ _ _)) | exact (Heap.objs_set_ne _ _ (by assumption)).trans (by assumption)) (Nat.le_of_ble_eq_true rfl)) ?_)
              refine AList.ls1 rfl rfl rfl (fun z => step_call0 Tryz.call76 (.cons (.lz rfl z) .nil) (cRight_calls _ _)) ?_
              refine AList.p rfl (pure_pickA (.tmp _ _ rfl) rfl) ?_
              refine AList.p rfl (pure_move (.tmp _ _ rfl)) ?_
              first | (refine AList.lz1 rfl rfl rfl (fun z => pure_fieldI Tryz.underlying27 rfl Tryz.sizeOf24 (.tmp _ _ rfl)) ?_) | (refine AList.lz1 rfl rfl rfl (fun z => pure_field Tryz.underlying27 rfl Tryz.sizeOf24 (.tmp _ _ rfl)) ?_)
              first | (refine AList.lz1 rfl rfl rfl (fun z => pure_loadN Tryz.isAgg24 Tryz.sizeOf24 (.lz rfl z) (Nat.le_of_ble_eq_true rfl)) ?_) | (refine AList.ls1 rfl rfl rfl (fun z => step_loadN Tryz.isAgg24 Tryz.sizeOf24 (.lz rfl z) (by first | assumption | exact (by assumption : Heap.le _ _).objs _ _ (by assumption) | exact Heap.objs_set_same _ _ _ | exact (Heap.objs_set_ne _ _ (by assumption)).trans (Heap.objs_set_same _ _ _) | exact (Heap.objs_set_ne _ _ (by assumption)).trans ((Heap.objs_set_ne _ _ (by assumption)).trans (Heap.objs_set_same _ _ _)) | exact (Heap.objs_set_ne _ _ (by assumption)).trans (by assumption)) (Nat.le_of_ble_eq_true rfl)) ?_)
              refine AList.ls1 rfl rfl rfl (fun z => step_call0 Tryz.call76 (.cons (.lz rfl z) .nil) (cRight_calls _ _)) ?_
              refine AList.p rfl (pure_pickA (.tmp _ _ rfl) rfl) ?_
              refine AList.p rfl (pure_move (.tmp _ _ rfl)) ?_
              first | (refine AList.lz1 rfl rfl rfl (fun z => pure_loadN Tryz.isAgg27 Tryz.sizeOf27 (.tmp _ _ rfl) (Nat.le_of_ble_eq_true rfl)) ?_) | (refine AList.ls1 rfl rfl rfl (fun z => step_loadN Tryz.isAgg27 Tryz.sizeOf27 (.tmp _ _ rfl) (by first | assumption | exact (by assumption : Heap.le _ _).objs _ _ (by assumption) | exact Heap.objs_set_same _ _ _ | exact (Heap.objs_set_ne _ _ (by assumption)).trans (Heap.objs_set_same _ _ _) | exact (Heap.objs_set_ne _ _ (by assumption)).trans ((Heap.objs_set_ne _ _ (by assumption)).trans (Heap.objs_set_same _ _ _)) | exact (Heap.objs_set_ne _ _ (by assumption)).trans (by assumption)) (Nat.le_of_ble_eq_true rfl)) ?_)
              first | (refine AList.lz1 rfl rfl rfl (fun z => pure_fieldI Tryz.underlying27 rfl Tryz.sizeOf24 (.tmp _ _ rfl)) ?_) | (refine AList.lz1 rfl rfl rfl (fun z => pure_field Tryz.underlying27 rfl Tryz.sizeOf24 (.tmp _ _ rfl)) ?_)
              first | (refine AList.lz1 rfl rfl rfl (fun z => pure_loadN Tryz.isAgg24 Tryz.sizeOf24 (.lz rfl z) (Nat.le_of_ble_eq_true rfl)) ?_) | (refine AList.ls1 rfl rfl rfl (fun z => step_loadN Tryz.isAgg24 Tryz.sizeOf24 (.lz rfl z) (by first | assumption | exact (by assumption : Heap.le _ _).objs _ _ (by assumption) | exact Heap.objs_set_same _ _ _ | exact (Heap.objs_set_ne _ _ (by assumption)).trans (Heap.objs_set_same _ _ _) | exact (Heap.objs_set_ne _ _ (by assumption)).trans ((Heap.objs_set_ne _ _ (by assumption)).trans (Heap.objs_set_same _ _ _)) | exact (Heap.objs_set_ne _ _ (by assumption)).trans (by assumption)) (Nat.le_of_ble_eq_true rfl)) ?_)
              first | (refine AList.lz1 rfl rfl rfl (fun z => pure_fieldI Tryz.underlying27 rfl Tryz.sizeOf24 (.tmp _ _ rfl)) ?_) | (refine AList.lz1 rfl rfl rfl (fun z => pure_field Tryz.underlying27 rfl Tryz.sizeOf24 (.tmp _ _ rfl)) ?_)
              first | (refine AList.lz1 rfl rfl rfl (fun z => pure_loadN Tryz.isAgg24 Tryz.sizeOf24 (.lz rfl z) (Nat.le_of_ble_eq_true rfl)) ?_) | (refine AList.ls1 rfl rfl rfl (fun z => step_loadN Tryz.isAgg24 Tryz.sizeOf24 (.lz rfl z) (by first | assumption | exact (by assumption : Heap.le _ _).objs _ _ (by assumption) | exact Heap.objs_set_same _ _ _ | exact (Heap.objs_set_ne _ _ (by assumption)).trans (Heap.objs_set_same _ _ _) | exact (Heap.objs_set_ne _ _ (by assumption)).trans ((Heap.objs_set_ne _ _ (by assumption)).trans (Heap.objs_set_same _ _ _)) | exact (Heap.objs_set_ne _ _ (by assumption)).trans (by assumption)) (Nat.le_of_ble_eq_true rfl)) ?_)
              refine AList.lz1 rfl rfl rfl (fun z => pure_build [(0, 1), (1, 1), (2, 1), (3, 1), (4, 1), (5, 4), (9, 4), (13, 1)] Tryz.underlying27 Tryz.zeroValue27 (zr27) rfl (pl27 _ Tryz.underlying27) (.cons (.lz rfl z) (.inr ⟨_, rfl⟩) (.cons (.lz rfl z) (.inr ⟨_, rfl⟩) .nil)) rfl) ?_
              refine AList.ls1 rfl rfl rfl (fun z => step_call0 Tryz.call94 (.cons (.lz rfl z) (.cons (.lz rfl z) .nil)) (bare_calls k b s i f p q ks (0) ([]) (false) (0) (p) (q) _)) ?_
              refine AList.p rfl (pure_pickA (.tmp _ _ rfl) rfl) ?_
              refine AList.p rfl (pure_assign (.tmp _ _ rfl)) ?_
              refine AList.nil ?_
              refine Next.go ?_
              refine AWP.ret ?_
              refine Block.rt ?_
              refine Next.rt ?_
              -- ret 5
              refine Ret.go (.cons (.tmp _ _ rfl) .nil) _ (Heap.le.refl _) ?_
              refine ⟨?_, rfl⟩
              unfold nodeOK
              simp_all [packed]
              all_goals grind
            · try simp only [decide_eq_false_iff_not] at hc86
              refine AWP.seq ?_
              -- region 15
              refine AWP.region ?_
              refine AList.p rfl (pure_eql (.tmp _ _ rfl) ev_int) ?_
              refine AList.p rfl (pure_assign (.tmp _ _ rfl)) ?_
              refine AList.nil ?_
              refine Next.go ?_
              -- c6
              refine AWP.cond (.tmp _ _ rfl) (fun hc109 => ?_) (fun hc109 => ?_)
              · try simp only [decide_eq_true_eq] at hc109
                refine AWP.seq ?_
                -- region 16
                refine AWP.region ?_
                refine AList.p rfl (pure_move (.tmp _ _ rfl)) ?_
                refine AList.p rfl (pure_eql (.tmp _ _ rfl) ev_int) ?_
                refine AList.p rfl (pure_move (.tmp _ _ rfl)) ?_
                first | (refine AList.lz1 rfl rfl rfl (fun z => pure_fieldI Tryz.underlying27 rfl Tryz.sizeOf9 (.tmp _ _ rfl)) ?_) | (refine AList.lz1 rfl rfl rfl (fun z => pure_field Tryz.underlying27 rfl Tryz.sizeOf9 (.tmp _ _ rfl)) ?_)
                first | (refine AList.lz1 rfl rfl rfl (fun z => pure_load1 Tryz.isAgg9 (.lz rfl z)) ?_) | (refine AList.ls1 rfl rfl rfl (fun z => step_load1 Tryz.isAgg9 (.lz rfl z) (by first | assumption | exact (by assumption : Heap.le _ _).objs _ _ (by assumption) | exact Heap.objs_set_same _ _ _ | exact (Heap.objs_set_ne _ _ (by assumption)).trans (Heap.objs_set_same _ _ _) | exact (Heap.objs_set_ne _ _ (by assumption)).trans ((Heap.objs_set_ne _ _ (by assumption)).trans (Heap.objs_set_same _ _ _)) | exact (Heap.objs_set_ne _ _ (by assumption)).trans (by assumption)) rfl) ?_)
                refine AList.lz1 rfl rfl rfl (fun z => pure_eqlStr (.lz rfl z) (ev_str rfl)) ?_
                refine AList.lz1 rfl rfl rfl (fun z => pure_move (.lz rfl z)) ?_
                first | (refine AList.lz2 rfl rfl rfl (fun z => pure_fieldI Tryz.underlying27 rfl Tryz.sizeOf9 (.tmp _ _ rfl)) ?_) | (refine AList.lz2 rfl rfl rfl (fun z => pure_field Tryz.underlying27 rfl Tryz.sizeOf9 (.tmp _ _ rfl)) ?_)
                first | (refine AList.lz2 rfl rfl rfl (fun z => pure_load1 Tryz.isAgg9 (.lz rfl z)) ?_) | (refine AList.ls2 rfl rfl rfl (fun z => step_load1 Tryz.isAgg9 (.lz rfl z) (by first | assumption | exact (by assumption : Heap.le _ _).objs _ _ (by assumption) | exact Heap.objs_set_same _ _ _ | exact (Heap.objs_set_ne _ _ (by assumption)).trans (Heap.objs_set_same _ _ _) | exact (Heap.objs_set_ne _ _ (by assumption)).trans ((Heap.objs_set_ne _ _ (by assumption)).trans (Heap.objs_set_same _ _ _)) | exact (Heap.objs_set_ne _ _ (by assumption)).trans (by assumption)) rfl) ?_)
                refine AList.lz2 rfl rfl rfl (fun z => pure_eqlStr (.lz rfl z) (ev_str rfl)) ?_
                refine AList.lz1 rfl rfl rfl (fun z => pure_pickO2 z (.lz rfl z) rfl) ?_
                refine AList.p rfl (pure_pickA (.tmp _ _ rfl) rfl) ?_
                refine AList.p rfl (pure_move (.tmp _ _ rfl)) ?_
                first | (refine AList.lz1 rfl rfl rfl (fun z => pure_loadN Tryz.isAgg27 Tryz.sizeOf27 (.tmp _ _ rfl) (Nat.le_of_ble_eq_true rfl)) ?_) | (refine AList.ls1 rfl rfl rfl (fun z => step_loadN Tryz.isAgg27 Tryz.sizeOf27 (.tmp _ _ rfl) (by first | assumption | exact (by assumption : Heap.le _ _).objs _ _ (by assumption) | exact Heap.objs_set_same _ _ _ | exact (Heap.objs_set_ne _ _ (by assumption)).trans (Heap.objs_set_same _ _ _) | exact (Heap.objs_set_ne _ _ (by assumption)).trans ((Heap.objs_set_ne _ _ (by assumption)).trans (Heap.objs_set_same _ _ _)) | exact (Heap.objs_set_ne _ _ (by assumption)).trans (by assumption)) (Nat.le_of_ble_eq_true rfl)) ?_)
                first | (refine AList.lz1 rfl rfl rfl (fun z => pure_fieldI Tryz.underlying27 rfl Tryz.sizeOf9 (.tmp _ _ rfl)) ?_) | (refine AList.lz1 rfl rfl rfl (fun z => pure_field Tryz.underlying27 rfl Tryz.sizeOf9 (.tmp _ _ rfl)) ?_)
                first | (refine AList.lz1 rfl rfl rfl (fun z => pure_load1 Tryz.isAgg9 (.lz rfl z)) ?_) | (refine AList.ls1 rfl rfl rfl (fun z => step_load1 Tryz.isAgg9 (.lz rfl z) (by first | assumption | exact (by assumption : Heap.le _ _).objs _ _ (by assumption) | exact Heap.objs_set_same _ _ _ | exact (Heap.objs_set_ne _ _ (by assumption)).trans (Heap.objs_set_same _ _ _) | exact (Heap.objs_set_ne _ _ (by assumption)).trans ((Heap.objs_set_ne _ _ (by assumption)).trans (Heap.objs_set_same _ _ _)) | exact (Heap.objs_set_ne _ _ (by assumption)).trans (by assumption)) rfl) ?_)
                refine AList.lz1 rfl rfl rfl (fun z => pure_build [(0, 1), (1, 1), (2, 1), (3, 1), (4, 1), (5, 4), (9, 4), (13, 1)] Tryz.underlying27 Tryz.zeroValue27 (zr27) rfl (pl27 _ Tryz.underlying27) (.cons (.lz rfl z) (.inl rfl) .nil) rfl) ?_
                refine AList.ls1 rfl rfl rfl (fun z => step_call0 Tryz.call94 (.cons (.lz rfl z) (.cons (.lz rfl z) .nil)) (bare_calls k b s i f p q ks (0) (s) (false) (0) (Pt.z) (Pt.z) _)) ?_
                refine AList.p rfl (pure_pickA (.tmp _ _ rfl) rfl) ?_
                refine AList.p rfl (pure_assign (.tmp _ _ rfl)) ?_
                refine AList.nil ?_
                refine Next.go ?_
                refine AWP.ret ?_
                refine Block.rt ?_
                refine Next.rt ?_
                -- ret 6
                refine Ret.go (.cons (.tmp _ _ rfl) .nil) _ (Heap.le.refl _) ?_
                refine ⟨?_, rfl⟩
                unfold nodeOK
                simp_all [packed, nat1]
                all_goals grind
              · try simp only [decide_eq_false_iff_not] at hc109
                refine AWP.seq ?_
                -- region 17
                refine AWP.region ?_
                refine AList.p rfl (pure_eql (.tmp _ _ rfl) ev_int) ?_
                refine AList.p rfl (pure_assign (.tmp _ _ rfl)) ?_
                refine AList.nil ?_
                refine Next.go ?_
                -- c7
                refine AWP.cond (.tmp _ _ rfl) (fun hc130 => ?_) (fun hc130 => ?_)
                · try simp only [decide_eq_true_eq] at hc130
                  refine AWP.seq ?_
                  -- region 18
                  refine AWP.region ?_
                  refine AList.p rfl (pure_move (.tmp _ _ rfl)) ?_
                  refine AList.p rfl (pure_eql (.tmp _ _ rfl) ev_int) ?_
                  refine AList.p rfl (pure_move (.tmp _ _ rfl)) ?_
                  first | (refine AList.lz1 rfl rfl rfl (fun z => pure_fieldI Tryz.underlying27 rfl Tryz.sizeOf9 (.tmp _ _ rfl)) ?_) | (refine AList.lz1 rfl rfl rfl (fun z => pure_field Tryz.underlying27 rfl Tryz.sizeOf9 (.tmp _ _ rfl)) ?_)
                  first | (refine AList.lz1 rfl rfl rfl (fun z => pure_load1 Tryz.isAgg9 (.lz rfl z)) ?_) | (refine AList.ls1 rfl rfl rfl (fun z => step_load1 Tryz.isAgg9 (.lz rfl z) (by first | assumption | exact (by assumption : Heap.le _ _).objs _ _ (by assumption) | exact Heap.objs_set_same _ _ _ | exact (Heap.objs_set_ne _ _ (by assumption)).trans (Heap.objs_set_same _ _ _) | exact (Heap.objs_set_ne _ _ (by assumption)).trans ((Heap.objs_set_ne _ _ (by assumption)).trans (Heap.objs_set_same _ _ _)) | exact (Heap.objs_set_ne _ _ (by assumption)).trans (by assumption)) rfl) ?_)
                  refine AList.ls1 rfl rfl rfl (fun z => step_call0 Tryz.call40 (.cons (.lz rfl z) .nil) (level_calls _ _)) ?_
                  refine AList.lz1 rfl rfl rfl (fun z => pure_gtr (.lz rfl z) ev_int) ?_
                  refine AList.p rfl (pure_pickA (.tmp _ _ rfl) rfl) ?_
                  refine AList.p rfl (pure_move (.tmp _ _ rfl)) ?_
                  first | (refine AList.lz1 rfl rfl rfl (fun z => pure_loadN Tryz.isAgg27 Tryz.sizeOf27 (.tmp _ _ rfl) (Nat.le_of_ble_eq_true rfl)) ?_) | (refine AList.ls1 rfl rfl rfl (fun z => step_loadN Tryz.isAgg27 Tryz.sizeOf27 (.tmp _ _ rfl) (by first | assumption | exact (by assumption : Heap.le _ _).objs _ _ (by assumption) | exact Heap.objs_set_same _ _ _ | exact (Heap.objs_set_ne _ _ (by assumption)).trans (Heap.objs_set_same _ _ _) | exact (Heap.objs_set_ne _ _ (by assumption)).trans ((Heap.objs_set_ne _ _ (by assumption)).trans (Heap.objs_set_same _ _ _)) | exact (Heap.objs_set_ne _ _ (by assumption)).trans (by assumption)) (Nat.le_of_ble_eq_true rfl)) ?_)
                  first | (refine AList.lz1 rfl rfl rfl (fun z => pure_fieldI Tryz.underlying27 rfl Tryz.sizeOf9 (.tmp _ _ rfl)) ?_) | (refine AList.lz1 rfl rfl rfl (fun z => pure_field Tryz.underlying27 rfl Tryz.sizeOf9 (.tmp _ _ rfl)) ?_)
                  first | (refine AList.lz1 rfl rfl rfl (fun z => pure_load1 Tryz.isAgg9 (.lz rfl z)) ?_) | (refine AList.ls1 rfl rfl rfl (fun z => step_load1 Tryz.isAgg9 (.lz rfl z) (by first | assumption | exact (by assumption : Heap.le _ _).objs _ _ (by assumption) | exact Heap.objs_set_same _ _ _ | exact (Heap.objs_set_ne _ _ (by assumption)).trans (Heap.objs_set_same _ _ _) | exact (Heap.objs_set_ne _ _ (by assumption)).trans ((Heap.objs_set_ne _ _ (by assumption)).trans (Heap.objs_set_same _ _ _)) | exact (Heap.objs_set_ne _ _ (by assumption)).trans (by assumption)) rfl) ?_)
                  refine AList.lz1 rfl rfl rfl (fun z => pure_build [(0, 1), (1, 1), (2, 1), (3, 1), (4, 1), (5, 4), (9, 4), (13, 1)] Tryz.underlying27 Tryz.zeroValue27 (zr27) rfl (pl27 _ Tryz.underlying27) (.cons (.lz rfl z) (.inl rfl) .nil) rfl) ?_
                  refine AList.ls1 rfl rfl rfl (fun z => step_call0 Tryz.call94 (.cons (.lz rfl z) (.cons (.lz rfl z) .nil)) (bare_calls k b s i f p q ks (0) (s) (false) (0) (Pt.z) (Pt.z) _)) ?_
                  refine AList.p rfl (pure_pickA (.tmp _ _ rfl) rfl) ?_
                  refine AList.p rfl (pure_assign (.tmp _ _ rfl)) ?_
                  refine AList.nil ?_
                  refine Next.go ?_
                  refine AWP.ret ?_
                  refine Block.rt ?_
                  refine Next.rt ?_
                  -- ret 7
                  refine Ret.go (.cons (.tmp _ _ rfl) .nil) _ (Heap.le.refl _) ?_
                  refine ⟨?_, rfl⟩
                  unfold nodeOK
                  simp_all [packed, nat2]
                  all_goals grind
                · try simp only [decide_eq_false_iff_not] at hc130
                  refine AWP.seq ?_
                  -- region 19
                  refine AWP.region ?_
                  refine AList.p rfl (pure_eql (.tmp _ _ rfl) ev_int) ?_
                  refine AList.p rfl (pure_assign (.tmp _ _ rfl)) ?_
                  refine AList.nil ?_
                  refine Next.go ?_
                  -- c8
                  refine AWP.cond (.tmp _ _ rfl) (fun hc147 => ?_) (fun hc147 => ?_)
                  · try simp only [decide_eq_true_eq] at hc147
                    refine AWP.seq ?_
                    -- region 20
                    refine AWP.region ?_
                    refine AList.p rfl (pure_move (.tmp _ _ rfl)) ?_
                    refine AList.p rfl (pure_eql (.tmp _ _ rfl) ev_int) ?_
                    refine AList.p rfl (pure_move (.tmp _ _ rfl)) ?_
                    first | (refine AList.lz1 rfl rfl rfl (fun z => pure_fieldI Tryz.underlying27 rfl Tryz.sizeOf9 (.tmp _ _ rfl)) ?_) | (refine AList.lz1 rfl rfl rfl (fun z => pure_field Tryz.underlying27 rfl Tryz.sizeOf9 (.tmp _ _ rfl)) ?_)
                    first | (refine AList.lz1 rfl rfl rfl (fun z => pure_load1 Tryz.isAgg9 (.lz rfl z)) ?_) | (refine AList.ls1 rfl rfl rfl (fun z => step_load1 Tryz.isAgg9 (.lz rfl z) (by first | assumption | exact (by assumption : Heap.le _ _).objs _ _ (by assumption) | exact Heap.objs_set_same _ _ _ | exact (Heap.objs_set_ne _ _ (by assumption)).trans (Heap.objs_set_same _ _ _) | exact (Heap.objs_set_ne _ _ (by assumption)).trans ((Heap.objs_set_ne _ _ (by assumption)).trans (Heap.objs_set_same _ _ _)) | exact (Heap.objs_set_ne _ _ (by assumption)).trans (by assumption)) rfl) ?_)
                    refine AList.lz1 rfl rfl rfl (fun z => pure_eqlStr (.lz rfl z) (ev_str rfl)) ?_
                    refine AList.p rfl (pure_pickA (.tmp _ _ rfl) rfl) ?_
                    refine AList.p rfl (pure_move (.tmp _ _ rfl)) ?_
                    first | (refine AList.lz1 rfl rfl rfl (fun z => pure_loadN Tryz.isAgg27 Tryz.sizeOf27 (.tmp _ _ rfl) (Nat.le_of_ble_eq_true rfl)) ?_) | (refine AList.ls1 rfl rfl rfl (fun z => step_loadN Tryz.isAgg27 Tryz.sizeOf27 (.tmp _ _ rfl) (by first | assumption | exact (by assumption : Heap.le _ _).objs _ _ (by assumption) | exact Heap.objs_set_same _ _ _ | exact (Heap.objs_set_ne _ _ (by assumption)).trans (Heap.objs_set_same _ _ _) | exact (Heap.objs_set_ne _ _ (by assumption)).trans ((Heap.objs_set_ne _ _ (by assumption)).trans (Heap.objs_set_same _ _ _)) | exact (Heap.objs_set_ne _ _ (by assumption)).trans (by assumption)) (Nat.le_of_ble_eq_true rfl)) ?_)
                    first | (refine AList.lz1 rfl rfl rfl (fun z => pure_fieldI Tryz.underlying27 rfl Tryz.sizeOf9 (.tmp _ _ rfl)) ?_) | (refine AList.lz1 rfl rfl rfl (fun z => pure_field Tryz.underlying27 rfl Tryz.sizeOf9 (.tmp _ _ rfl)) ?_)
                    first | (refine AList.lz1 rfl rfl rfl (fun z => pure_load1 Tryz.isAgg9 (.lz rfl z)) ?_) | (refine AList.ls1 rfl rfl rfl (fun z => step_load1 Tryz.isAgg9 (.lz rfl z) (by first | assumption | exact (by assumption : Heap.le _ _).objs _ _ (by assumption) | exact Heap.objs_set_same _ _ _ | exact (Heap.objs_set_ne _ _ (by assumption)).trans (Heap.objs_set_same _ _ _) | exact (Heap.objs_set_ne _ _ (by assumption)).trans ((Heap.objs_set_ne _ _ (by assumption)).trans (Heap.objs_set_same _ _ _)) | exact (Heap.objs_set_ne _ _ (by assumption)).trans (by assumption)) rfl) ?_)
                    refine AList.lz1 rfl rfl rfl (fun z => pure_build [(0, 1), (1, 1), (2, 1), (3, 1), (4, 1), (5, 4), (9, 4), (13, 1)] Tryz.underlying27 Tryz.zeroValue27 (zr27) rfl (pl27 _ Tryz.underlying27) (.cons (.lz rfl z) (.inl rfl) .nil) rfl) ?_
                    refine AList.ls1 rfl rfl rfl (fun z => step_call0 Tryz.call94 (.cons (.lz rfl z) (.cons (.lz rfl z) .nil)) (bare_calls k b s i f p q ks (0) (s) (false) (0) (Pt.z) (Pt.z) _)) ?_
                    refine AList.p rfl (pure_pickA (.tmp _ _ rfl) rfl) ?_
                    refine AList.p rfl (pure_assign (.tmp _ _ rfl)) ?_
                    refine AList.nil ?_
                    refine Next.go ?_
                    refine AWP.ret ?_
                    refine Block.rt ?_
                    refine Next.rt ?_
                    -- ret 8
                    refine Ret.go (.cons (.tmp _ _ rfl) .nil) _ (Heap.le.refl _) ?_
                    refine ⟨?_, rfl⟩
                    unfold nodeOK
                    simp_all [packed, nat1]
                    all_goals grind
                  · try simp only [decide_eq_false_iff_not] at hc147
                    refine AWP.seq ?_
                    -- region 21
                    refine AWP.region ?_
                    refine AList.p rfl (pure_eql (.tmp _ _ rfl) ev_int) ?_
                    refine AList.p rfl (pure_assign (.tmp _ _ rfl)) ?_
                    refine AList.nil ?_
                    refine Next.go ?_
                    -- c9
                    refine AWP.cond (.tmp _ _ rfl) (fun hc163 => ?_) (fun hc163 => ?_)
                    · try simp only [decide_eq_true_eq] at hc163
                      refine AWP.seq ?_
                      -- region 22
                      refine AWP.region ?_
                      refine AList.p rfl (pure_move (.tmp _ _ rfl)) ?_
                      refine AList.p rfl (pure_leq (.tmp _ _ rfl) ev_int) ?_
                      refine AList.p rfl (pure_move (.tmp _ _ rfl)) ?_
                      first | (refine AList.lz1 rfl rfl rfl (fun z => pure_fieldI Tryz.underlying27 rfl Tryz.sizeOf9 (.tmp _ _ rfl)) ?_) | (refine AList.lz1 rfl rfl rfl (fun z => pure_field Tryz.underlying27 rfl Tryz.sizeOf9 (.tmp _ _ rfl)) ?_)
                      first | (refine AList.lz1 rfl rfl rfl (fun z => pure_load1 Tryz.isAgg9 (.lz rfl z)) ?_) | (refine AList.ls1 rfl rfl rfl (fun z => step_load1 Tryz.isAgg9 (.lz rfl z) (by first | assumption | exact (by assumption : Heap.le _ _).objs _ _ (by assumption) | exact Heap.objs_set_same _ _ _ | exact (Heap.objs_set_ne _ _ (by assumption)).trans (Heap.objs_set_same _ _ _) | exact (Heap.objs_set_ne _ _ (by assumption)).trans ((Heap.objs_set_ne _ _ (by assumption)).trans (Heap.objs_set_same _ _ _)) | exact (Heap.objs_set_ne _ _ (by assumption)).trans (by assumption)) rfl) ?_)
                      refine AList.ls1 rfl rfl rfl (fun z => step_call0 Tryz.call95 (.cons (.lz rfl z) .nil) (fname_calls _ _)) ?_
                      refine AList.p rfl (pure_pickA (.tmp _ _ rfl) rfl) ?_
                      refine AList.p rfl (pure_move (.tmp _ _ rfl)) ?_
                      first | (refine AList.lz1 rfl rfl rfl (fun z => pure_loadN Tryz.isAgg27 Tryz.sizeOf27 (.tmp _ _ rfl) (Nat.le_of_ble_eq_true rfl)) ?_) | (refine AList.ls1 rfl rfl rfl (fun z => step_loadN Tryz.isAgg27 Tryz.sizeOf27 (.tmp _ _ rfl) (by first | assumption | exact (by assumption : Heap.le _ _).objs _ _ (by assumption) | exact Heap.objs_set_same _ _ _ | exact (Heap.objs_set_ne _ _ (by assumption)).trans (Heap.objs_set_same _ _ _) | exact (Heap.objs_set_ne _ _ (by assumption)).trans ((Heap.objs_set_ne _ _ (by assumption)).trans (Heap.objs_set_same _ _ _)) | exact (Heap.objs_set_ne _ _ (by assumption)).trans (by assumption)) (Nat.le_of_ble_eq_true rfl)) ?_)
                      first | (refine AList.lz1 rfl rfl rfl (fun z => pure_fieldI Tryz.underlying27 rfl Tryz.sizeOf9 (.tmp _ _ rfl)) ?_) | (refine AList.lz1 rfl rfl rfl (fun z => pure_field Tryz.underlying27 rfl Tryz.sizeOf9 (.tmp _ _ rfl)) ?_)
                      first | (refine AList.lz1 rfl rfl rfl (fun z => pure_load1 Tryz.isAgg9 (.lz rfl z)) ?_) | (refine AList.ls1 rfl rfl rfl (fun z => step_load1 Tryz.isAgg9 (.lz rfl z) (by first | assumption | exact (by assumption : Heap.le _ _).objs _ _ (by assumption) | exact Heap.objs_set_same _ _ _ | exact (Heap.objs_set_ne _ _ (by assumption)).trans (Heap.objs_set_same _ _ _) | exact (Heap.objs_set_ne _ _ (by assumption)).trans ((Heap.objs_set_ne _ _ (by assumption)).trans (Heap.objs_set_same _ _ _)) | exact (Heap.objs_set_ne _ _ (by assumption)).trans (by assumption)) rfl) ?_)
                      refine AList.lz1 rfl rfl rfl (fun z => pure_build [(0, 1), (1, 1), (2, 1), (3, 1), (4, 1), (5, 4), (9, 4), (13, 1)] Tryz.underlying27 Tryz.zeroValue27 (zr27) rfl (pl27 _ Tryz.underlying27) (.cons (.lz rfl z) (.inl rfl) .nil) rfl) ?_
                      refine AList.ls1 rfl rfl rfl (fun z => step_call0 Tryz.call94 (.cons (.lz rfl z) (.cons (.lz rfl z) .nil)) (bare_calls k b s i f p q ks (0) (s) (false) (0) (Pt.z) (Pt.z) _)) ?_
                      refine AList.p rfl (pure_pickA (.tmp _ _ rfl) rfl) ?_
                      refine AList.p rfl (pure_assign (.tmp _ _ rfl)) ?_
                      refine AList.nil ?_
                      refine Next.go ?_
                      refine AWP.ret ?_
                      refine Block.rt ?_
                      refine Next.rt ?_
                      -- ret 9
                      refine Ret.go (.cons (.tmp _ _ rfl) .nil) _ (Heap.le.refl _) ?_
                      refine ⟨?_, rfl⟩
                      unfold nodeOK
                      simp_all [packed, nat30]
                      all_goals grind
                    · try simp only [decide_eq_false_iff_not] at hc163
                      refine AWP.skip ?_
                      refine Block.go ?_
                      refine Next.go ?_
                      refine AWP.seq ?_
                      -- region 23
                      refine AWP.region ?_
                      refine AList.p rfl (pure_assign ev_bool) ?_
                      refine AList.nil ?_
                      refine Next.go ?_
                      refine AWP.ret ?_
                      -- ret 10
                      refine Ret.go (.cons (.tmp _ _ rfl) .nil) _ (Heap.le.refl _) ?_
                      refine ⟨?_, rfl⟩
                      unfold nodeOK
                      simp_all [packed]
                      all_goals grind

end Go.Proofs.YthhcdmmihjhipaaGreatDoor

namespace Go.Proofs.YthhcdmmihjhipaaGreatDoor
open Go Go.RowKit

def zOK (k b : Int) (i : Bool) (f : Int) (p q : Pt) : Prop := (k ≠ 1 → b = 0) ∧ (k ≠ 3 → i = false) ∧ (k ≠ 4 → f = 0) ∧ (k ≠ 5 → k ≠ 6 → p = Pt.z) ∧ (k ≠ 6 → q = Pt.z)
theorem node_z {k b : Int} {s : List UInt8} {i : Bool} {f : Int} {p q : Pt} {n : Nat} (h : nodeOK k b s i f p q n = true) : zOK k b i f p q := by
  unfold nodeOK at h
  unfold zOK
  repeat (split at h; · simp_all)
  cases h
theorem node_f {k b : Int} {s : List UInt8} {i : Bool} {f : Int} {p q : Pt} {n : Nat} (h : ¬ zOK k b i f p q) : nodeOK k b s i f p q n = false := by
  cases e : nodeOK k b s i f p q n with
  | false => rfl
  | true => exact absurd (node_z e) h

set_option maxRecDepth 100000 in
theorem rnode_calls (k b : Int) (s : List UInt8) (i : Bool) (f : Int) (p q : Pt) (ks : List Ex) (hs : s.length ≤ maxLen) (_ : ks.length ≤ maxLen) (H : Heap) : ACall Tryz.prog 65 [ndv k b s i f p q ks] H (fun y H' => y = .bool (nodeOK k b s i f p q ks.length) ∧ H' = H) := by
  have hml := maxLen_eq
  refine ACall.of_body Tryz.func65 rfl Tryz.ntmps65 Tryz.results65 rfl ?_
  refine AWP.seq ?_
  -- region 0
  refine AWP.region ?_
  refine AList.s rfl (step_boxI (.tmp _ _ rfl) (.inr ⟨_, rfl⟩)) ?_
  rintro _ _ ⟨rfl, hH⟩
  obtain rfl := hH.symm
  refine AList.p rfl (pure_assign ev_bool) ?_
  refine AList.nil ?_
  refine Next.go ?_
  refine AWP.seq ?_
  -- region 1
  refine AWP.region ?_
  first | (refine AList.p rfl (pure_fieldI Tryz.underlying27 rfl Tryz.sizeOf25 (.tmp _ _ rfl)) ?_) | (refine AList.p rfl (pure_field Tryz.underlying27 rfl Tryz.sizeOf25 (.tmp _ _ rfl)) ?_)
  first | (refine AList.p rfl (pure_load1 Tryz.isAgg25 (.tmp _ _ rfl)) ?_) | (refine AList.s rfl (step_load1 Tryz.isAgg25 (.tmp _ _ rfl) (by first | assumption | exact (by assumption : Heap.le _ _).objs _ _ (by assumption) | exact Heap.objs_set_same _ _ _ | exact (Heap.objs_set_ne _ _ (by assumption)).trans (Heap.objs_set_same _ _ _) | exact (Heap.objs_set_ne _ _ (by assumption)).trans ((Heap.objs_set_ne _ _ (by assumption)).trans (Heap.objs_set_same _ _ _)) | exact (Heap.objs_set_ne _ _ (by assumption)).trans (by assumption)) rfl) ?_; rintro _ _ ⟨rfl, hH⟩; obtain rfl := hH.symm)
  first | (refine AList.p rfl (pure_lenL Tryz.underlying25 (.tmp _ _ rfl)) ?_) | (refine AList.p rfl (pure_lenS Tryz.underlying25 (.tmp _ _ rfl)) ?_) | (refine AList.p rfl (pure_lenM Tryz.underlying25 (.tmp _ _ rfl)) ?_)
  refine AList.p rfl (pure_assign (.tmp _ _ rfl)) ?_
  refine AList.nil ?_
  refine Next.go ?_
  refine AWP.seq ?_
  -- region 2
  refine AWP.region ?_
  refine AList.p rfl (pure_build [(0, 1), (1, 1), (2, 1), (3, 1)] Tryz.underlying24 Tryz.zeroValue24 (zr24) rfl (pl24 _ Tryz.underlying24) .nil rfl) ?_
  refine AList.s rfl (step_alloc Tryz.zeroValue24 (zr24)) ?_
  rintro _ _ ⟨b4, hb4, rfl, hH⟩
  obtain rfl := hH.symm
  refine AList.s0 (step_store Tryz.sizeOf24 (.tmp _ _ rfl) (.tmp _ _ rfl) rfl rfl (.inr ⟨_, rfl⟩) (by first | assumption | exact (by assumption : Heap.le _ _).objs _ _ (by assumption) | exact Heap.objs_set_same _ _ _ | exact (Heap.objs_set_ne _ _ (by assumption)).trans (Heap.objs_set_same _ _ _) | exact (Heap.objs_set_ne _ _ (by assumption)).trans ((Heap.objs_set_ne _ _ (by assumption)).trans (Heap.objs_set_same _ _ _)) | exact (Heap.objs_set_ne _ _ (by assumption)).trans (by assumption)) (Nat.le_of_ble_eq_true rfl)) ?_
  rintro _ _ ⟨rfl, hH⟩
  obtain rfl := hH.symm
  try first | rw [Heap.set_set] | rw [Heap.set_under (by assumption)]
  refine AList.nil ?_
  refine Next.go ?_
  refine AWP.frz (t := 4) rfl (by first | exact hb4 | exact Heap.fresh_set hb4 _) ?_
  refine AWP.seq ?_
  refine AWP.seq ?_
  -- region 3
  refine AWP.region ?_
  first | (refine AList.p rfl (pure_fieldI Tryz.underlying27 rfl Tryz.sizeOf3 (.tmp _ _ rfl)) ?_) | (refine AList.p rfl (pure_field Tryz.underlying27 rfl Tryz.sizeOf3 (.tmp _ _ rfl)) ?_)
  first | (refine AList.p rfl (pure_load1 Tryz.isAgg3 (.tmp _ _ rfl)) ?_) | (refine AList.s rfl (step_load1 Tryz.isAgg3 (.tmp _ _ rfl) (by first | assumption | exact (by assumption : Heap.le _ _).objs _ _ (by assumption) | exact Heap.objs_set_same _ _ _ | exact (Heap.objs_set_ne _ _ (by assumption)).trans (Heap.objs_set_same _ _ _) | exact (Heap.objs_set_ne _ _ (by assumption)).trans ((Heap.objs_set_ne _ _ (by assumption)).trans (Heap.objs_set_same _ _ _)) | exact (Heap.objs_set_ne _ _ (by assumption)).trans (by assumption)) rfl) ?_; rintro _ _ ⟨rfl, hH⟩; obtain rfl := hH.symm)
  refine AList.p rfl (pure_neq (.tmp _ _ rfl) ev_int) ?_
  refine AList.p rfl (pure_move (.tmp _ _ rfl)) ?_
  first | (refine AList.lz1 rfl rfl rfl (fun z => pure_fieldI Tryz.underlying27 rfl Tryz.sizeOf22 (.tmp _ _ rfl)) ?_) | (refine AList.lz1 rfl rfl rfl (fun z => pure_field Tryz.underlying27 rfl Tryz.sizeOf22 (.tmp _ _ rfl)) ?_)
  first | (refine AList.lz1 rfl rfl rfl (fun z => pure_load1 Tryz.isAgg22 (.lz rfl z)) ?_) | (refine AList.ls1 rfl rfl rfl (fun z => step_load1 Tryz.isAgg22 (.lz rfl z) (by first | assumption | exact (by assumption : Heap.le _ _).objs _ _ (by assumption) | exact Heap.objs_set_same _ _ _ | exact (Heap.objs_set_ne _ _ (by assumption)).trans (Heap.objs_set_same _ _ _) | exact (Heap.objs_set_ne _ _ (by assumption)).trans ((Heap.objs_set_ne _ _ (by assumption)).trans (Heap.objs_set_same _ _ _)) | exact (Heap.objs_set_ne _ _ (by assumption)).trans (by assumption)) rfl) ?_)
  refine AList.lz1 rfl rfl rfl (fun z => pure_neq (.lz rfl z) ev_int) ?_
  refine AList.p rfl (pure_pickA (.tmp _ _ rfl) rfl) ?_
  refine AList.p rfl (pure_move (.tmp _ _ rfl)) ?_
  first | (refine AList.lz1 rfl rfl rfl (fun z => pure_fieldI Tryz.underlying27 rfl Tryz.sizeOf3 (.tmp _ _ rfl)) ?_) | (refine AList.lz1 rfl rfl rfl (fun z => pure_field Tryz.underlying27 rfl Tryz.sizeOf3 (.tmp _ _ rfl)) ?_)
  first | (refine AList.lz1 rfl rfl rfl (fun z => pure_load1 Tryz.isAgg3 (.lz rfl z)) ?_) | (refine AList.ls1 rfl rfl rfl (fun z => step_load1 Tryz.isAgg3 (.lz rfl z) (by first | assumption | exact (by assumption : Heap.le _ _).objs _ _ (by assumption) | exact Heap.objs_set_same _ _ _ | exact (Heap.objs_set_ne _ _ (by assumption)).trans (Heap.objs_set_same _ _ _) | exact (Heap.objs_set_ne _ _ (by assumption)).trans ((Heap.objs_set_ne _ _ (by assumption)).trans (Heap.objs_set_same _ _ _)) | exact (Heap.objs_set_ne _ _ (by assumption)).trans (by assumption)) rfl) ?_)
  refine AList.lz1 rfl rfl rfl (fun z => pure_neq (.lz rfl z) ev_int) ?_
  refine AList.lz1 rfl rfl rfl (fun z => pure_move (.lz rfl z)) ?_
  first | (refine AList.lz2 rfl rfl rfl (fun z => pure_fieldI Tryz.underlying27 rfl Tryz.sizeOf4 (.tmp _ _ rfl)) ?_) | (refine AList.lz2 rfl rfl rfl (fun z => pure_field Tryz.underlying27 rfl Tryz.sizeOf4 (.tmp _ _ rfl)) ?_)
  first | (refine AList.lz2 rfl rfl rfl (fun z => pure_load1 Tryz.isAgg4 (.lz rfl z)) ?_) | (refine AList.ls2 rfl rfl rfl (fun z => step_load1 Tryz.isAgg4 (.lz rfl z) (by first | assumption | exact (by assumption : Heap.le _ _).objs _ _ (by assumption) | exact Heap.objs_set_same _ _ _ | exact (Heap.objs_set_ne _ _ (by assumption)).trans (Heap.objs_set_same _ _ _) | exact (Heap.objs_set_ne _ _ (by assumption)).trans ((Heap.objs_set_ne _ _ (by assumption)).trans (Heap.objs_set_same _ _ _)) | exact (Heap.objs_set_ne _ _ (by assumption)).trans (by assumption)) rfl) ?_)
  refine AList.lz1 rfl rfl rfl (fun z => pure_pickA2 z (.lz rfl z) rfl) ?_
  refine AList.p rfl (pure_pickO (.tmp _ _ rfl) rfl) ?_
  refine AList.p rfl (pure_move (.tmp _ _ rfl)) ?_
  first | (refine AList.lz1 rfl rfl rfl (fun z => pure_fieldI Tryz.underlying27 rfl Tryz.sizeOf3 (.tmp _ _ rfl)) ?_) | (refine AList.lz1 rfl rfl rfl (fun z => pure_field Tryz.underlying27 rfl Tryz.sizeOf3 (.tmp _ _ rfl)) ?_)
  first | (refine AList.lz1 rfl rfl rfl (fun z => pure_load1 Tryz.isAgg3 (.lz rfl z)) ?_) | (refine AList.ls1 rfl rfl rfl (fun z => step_load1 Tryz.isAgg3 (.lz rfl z) (by first | assumption | exact (by assumption : Heap.le _ _).objs _ _ (by assumption) | exact Heap.objs_set_same _ _ _ | exact (Heap.objs_set_ne _ _ (by assumption)).trans (Heap.objs_set_same _ _ _) | exact (Heap.objs_set_ne _ _ (by assumption)).trans ((Heap.objs_set_ne _ _ (by assumption)).trans (Heap.objs_set_same _ _ _)) | exact (Heap.objs_set_ne _ _ (by assumption)).trans (by assumption)) rfl) ?_)
  refine AList.lz1 rfl rfl rfl (fun z => pure_neq (.lz rfl z) ev_int) ?_
  refine AList.lz1 rfl rfl rfl (fun z => pure_move (.lz rfl z)) ?_
  first | (refine AList.lz2 rfl rfl rfl (fun z => pure_fieldI Tryz.underlying27 rfl Tryz.sizeOf3 (.tmp _ _ rfl)) ?_) | (refine AList.lz2 rfl rfl rfl (fun z => pure_field Tryz.underlying27 rfl Tryz.sizeOf3 (.tmp _ _ rfl)) ?_)
  first | (refine AList.lz2 rfl rfl rfl (fun z => pure_load1 Tryz.isAgg3 (.lz rfl z)) ?_) | (refine AList.ls2 rfl rfl rfl (fun z => step_load1 Tryz.isAgg3 (.lz rfl z) (by first | assumption | exact (by assumption : Heap.le _ _).objs _ _ (by assumption) | exact Heap.objs_set_same _ _ _ | exact (Heap.objs_set_ne _ _ (by assumption)).trans (Heap.objs_set_same _ _ _) | exact (Heap.objs_set_ne _ _ (by assumption)).trans ((Heap.objs_set_ne _ _ (by assumption)).trans (Heap.objs_set_same _ _ _)) | exact (Heap.objs_set_ne _ _ (by assumption)).trans (by assumption)) rfl) ?_)
  refine AList.lz2 rfl rfl rfl (fun z => pure_neq (.lz rfl z) ev_int) ?_
  refine AList.lz1 rfl rfl rfl (fun z => pure_pickA2 z (.lz rfl z) rfl) ?_
  refine AList.p rfl (pure_pickO (.tmp _ _ rfl) rfl) ?_
  refine AList.p rfl (pure_move (.tmp _ _ rfl)) ?_
  first | (refine AList.lz1 rfl rfl rfl (fun z => pure_fieldI Tryz.underlying27 rfl Tryz.sizeOf3 (.tmp _ _ rfl)) ?_) | (refine AList.lz1 rfl rfl rfl (fun z => pure_field Tryz.underlying27 rfl Tryz.sizeOf3 (.tmp _ _ rfl)) ?_)
  first | (refine AList.lz1 rfl rfl rfl (fun z => pure_load1 Tryz.isAgg3 (.lz rfl z)) ?_) | (refine AList.ls1 rfl rfl rfl (fun z => step_load1 Tryz.isAgg3 (.lz rfl z) (by first | assumption | exact (by assumption : Heap.le _ _).objs _ _ (by assumption) | exact Heap.objs_set_same _ _ _ | exact (Heap.objs_set_ne _ _ (by assumption)).trans (Heap.objs_set_same _ _ _) | exact (Heap.objs_set_ne _ _ (by assumption)).trans ((Heap.objs_set_ne _ _ (by assumption)).trans (Heap.objs_set_same _ _ _)) | exact (Heap.objs_set_ne _ _ (by assumption)).trans (by assumption)) rfl) ?_)
  refine AList.lz1 rfl rfl rfl (fun z => pure_neq (.lz rfl z) ev_int) ?_
  refine AList.lz1 rfl rfl rfl (fun z => pure_move (.lz rfl z)) ?_
  first | (refine AList.lz2 rfl rfl rfl (fun z => pure_fieldI Tryz.underlying27 rfl Tryz.sizeOf3 (.tmp _ _ rfl)) ?_) | (refine AList.lz2 rfl rfl rfl (fun z => pure_field Tryz.underlying27 rfl Tryz.sizeOf3 (.tmp _ _ rfl)) ?_)
  first | (refine AList.lz2 rfl rfl rfl (fun z => pure_load1 Tryz.isAgg3 (.lz rfl z)) ?_) | (refine AList.ls2 rfl rfl rfl (fun z => step_load1 Tryz.isAgg3 (.lz rfl z) (by first | assumption | exact (by assumption : Heap.le _ _).objs _ _ (by assumption) | exact Heap.objs_set_same _ _ _ | exact (Heap.objs_set_ne _ _ (by assumption)).trans (Heap.objs_set_same _ _ _) | exact (Heap.objs_set_ne _ _ (by assumption)).trans ((Heap.objs_set_ne _ _ (by assumption)).trans (Heap.objs_set_same _ _ _)) | exact (Heap.objs_set_ne _ _ (by assumption)).trans (by assumption)) rfl) ?_)
  refine AList.lz2 rfl rfl rfl (fun z => pure_neq (.lz rfl z) ev_int) ?_
  refine AList.lz1 rfl rfl rfl (fun z => pure_pickA2 z (.lz rfl z) rfl) ?_
  refine AList.lz1 rfl rfl rfl (fun z => pure_move (.lz rfl z)) ?_
  first | (refine AList.lz2 rfl rfl rfl (fun z => pure_fieldI Tryz.underlying27 rfl Tryz.sizeOf24 (.tmp _ _ rfl)) ?_) | (refine AList.lz2 rfl rfl rfl (fun z => pure_field Tryz.underlying27 rfl Tryz.sizeOf24 (.tmp _ _ rfl)) ?_)
  first | (refine AList.lz2 rfl rfl rfl (fun z => pure_loadN Tryz.isAgg24 Tryz.sizeOf24 (.lz rfl z) (Nat.le_of_ble_eq_true rfl)) ?_) | (refine AList.ls2 rfl rfl rfl (fun z => step_loadN Tryz.isAgg24 Tryz.sizeOf24 (.lz rfl z) (by first | assumption | exact (by assumption : Heap.le _ _).objs _ _ (by assumption) | exact Heap.objs_set_same _ _ _ | exact (Heap.objs_set_ne _ _ (by assumption)).trans (Heap.objs_set_same _ _ _) | exact (Heap.objs_set_ne _ _ (by assumption)).trans ((Heap.objs_set_ne _ _ (by assumption)).trans (Heap.objs_set_same _ _ _)) | exact (Heap.objs_set_ne _ _ (by assumption)).trans (by assumption)) (Nat.le_of_ble_eq_true rfl)) ?_)
  first | (refine AList.lz2 rfl rfl rfl (fun z => pure_loadN Tryz.isAgg24 Tryz.sizeOf24 (.tmp _ _ rfl) (Nat.le_of_ble_eq_true rfl)) ?_) | (refine AList.ls2 rfl rfl rfl (fun z => step_loadN Tryz.isAgg24 Tryz.sizeOf24 (.tmp _ _ rfl) (by first | assumption | exact (by assumption : Heap.le _ _).objs _ _ (by assumption) | exact Heap.objs_set_same _ _ _ | exact (Heap.objs_set_ne _ _ (by assumption)).trans (Heap.objs_set_same _ _ _) | exact (Heap.objs_set_ne _ _ (by assumption)).trans ((Heap.objs_set_ne _ _ (by assumption)).trans (Heap.objs_set_same _ _ _)) | exact (Heap.objs_set_ne _ _ (by assumption)).trans (by assumption)) (Nat.le_of_ble_eq_true rfl)) ?_)
  refine AList.lz2 rfl rfl rfl (fun z => pure_neqA Tryz.eqGuardType24 (.lz rfl z) (.lz rfl z) (eqPt (p) (Pt.z))) ?_
  refine AList.lz1 rfl rfl rfl (fun z => pure_pickA2 z (.lz rfl z) rfl) ?_
  refine AList.p rfl (pure_pickO (.tmp _ _ rfl) rfl) ?_
  refine AList.p rfl (pure_move (.tmp _ _ rfl)) ?_
  first | (refine AList.lz1 rfl rfl rfl (fun z => pure_fieldI Tryz.underlying27 rfl Tryz.sizeOf3 (.tmp _ _ rfl)) ?_) | (refine AList.lz1 rfl rfl rfl (fun z => pure_field Tryz.underlying27 rfl Tryz.sizeOf3 (.tmp _ _ rfl)) ?_)
  first | (refine AList.lz1 rfl rfl rfl (fun z => pure_load1 Tryz.isAgg3 (.lz rfl z)) ?_) | (refine AList.ls1 rfl rfl rfl (fun z => step_load1 Tryz.isAgg3 (.lz rfl z) (by first | assumption | exact (by assumption : Heap.le _ _).objs _ _ (by assumption) | exact Heap.objs_set_same _ _ _ | exact (Heap.objs_set_ne _ _ (by assumption)).trans (Heap.objs_set_same _ _ _) | exact (Heap.objs_set_ne _ _ (by assumption)).trans ((Heap.objs_set_ne _ _ (by assumption)).trans (Heap.objs_set_same _ _ _)) | exact (Heap.objs_set_ne _ _ (by assumption)).trans (by assumption)) rfl) ?_)
  refine AList.lz1 rfl rfl rfl (fun z => pure_neq (.lz rfl z) ev_int) ?_
  refine AList.lz1 rfl rfl rfl (fun z => pure_move (.lz rfl z)) ?_
  first | (refine AList.lz2 rfl rfl rfl (fun z => pure_fieldI Tryz.underlying27 rfl Tryz.sizeOf24 (.tmp _ _ rfl)) ?_) | (refine AList.lz2 rfl rfl rfl (fun z => pure_field Tryz.underlying27 rfl Tryz.sizeOf24 (.tmp _ _ rfl)) ?_)
  first | (refine AList.lz2 rfl rfl rfl (fun z => pure_loadN Tryz.isAgg24 Tryz.sizeOf24 (.lz rfl z) (Nat.le_of_ble_eq_true rfl)) ?_) | (refine AList.ls2 rfl rfl rfl (fun z => step_loadN Tryz.isAgg24 Tryz.sizeOf24 (.lz rfl z) (by first | assumption | exact (by assumption : Heap.le _ _).objs _ _ (by assumption) | exact Heap.objs_set_same _ _ _ | exact (Heap.objs_set_ne _ _ (by assumption)).trans (Heap.objs_set_same _ _ _) | exact (Heap.objs_set_ne _ _ (by assumption)).trans ((Heap.objs_set_ne _ _ (by assumption)).trans (Heap.objs_set_same _ _ _)) | exact (Heap.objs_set_ne _ _ (by assumption)).trans (by assumption)) (Nat.le_of_ble_eq_true rfl)) ?_)
  first | (refine AList.lz2 rfl rfl rfl (fun z => pure_loadN Tryz.isAgg24 Tryz.sizeOf24 (.tmp _ _ rfl) (Nat.le_of_ble_eq_true rfl)) ?_) | (refine AList.ls2 rfl rfl rfl (fun z => step_loadN Tryz.isAgg24 Tryz.sizeOf24 (.tmp _ _ rfl) (by first | assumption | exact (by assumption : Heap.le _ _).objs _ _ (by assumption) | exact Heap.objs_set_same _ _ _ | exact (Heap.objs_set_ne _ _ (by assumption)).trans (Heap.objs_set_same _ _ _) | exact (Heap.objs_set_ne _ _ (by assumption)).trans ((Heap.objs_set_ne _ _ (by assumption)).trans (Heap.objs_set_same _ _ _)) | exact (Heap.objs_set_ne _ _ (by assumption)).trans (by assumption)) (Nat.le_of_ble_eq_true rfl)) ?_)
  refine AList.lz2 rfl rfl rfl (fun z => pure_neqA Tryz.eqGuardType24 (.lz rfl z) (.lz rfl z) (eqPt (q) (Pt.z))) ?_
  refine AList.lz1 rfl rfl rfl (fun z => pure_pickA2 z (.lz rfl z) rfl) ?_
  refine AList.p rfl (pure_pickO (.tmp _ _ rfl) rfl) ?_
  refine AList.nil ?_
  refine Next.go ?_
  -- c0
  refine AWP.cond (.tmp _ _ rfl) (fun hc64 => ?_) (fun hc64 => ?_)
  · try simp only [ne_eq] at hc64
    have hz : ¬ zOK k b i f p q := by unfold zOK; simp at hc64; grind
    clear hc64
    refine AWP.seq ?_
    -- region 4
    refine AWP.region ?_
    refine AList.p rfl (pure_assign ev_bool) ?_
    refine AList.nil ?_
    refine Next.go ?_
    refine AWP.ret ?_
    refine Next.rt ?_
    -- ret 0
    refine Ret.go (.cons (.tmp _ _ rfl) .nil) _ (Heap.le.refl _) ?_
    exact ⟨congrArg AV.bool (node_f hz).symm, rfl⟩
  · try simp only [ne_eq] at hc64
    have hz : zOK k b i f p q := by unfold zOK; simp at hc64; grind
    clear hc64
    obtain ⟨hz1, hz2, hz3, hz4, hz5⟩ := hz
    refine AWP.skip ?_
    refine Next.go ?_
    refine AWP.seq ?_
    refine AWP.seq ?_
    -- region 5
    refine AWP.region ?_
    first | (refine AList.p rfl (pure_fieldI Tryz.underlying27 rfl Tryz.sizeOf3 (.tmp _ _ rfl)) ?_) | (refine AList.p rfl (pure_field Tryz.underlying27 rfl Tryz.sizeOf3 (.tmp _ _ rfl)) ?_)
    first | (refine AList.p rfl (pure_load1 Tryz.isAgg3 (.tmp _ _ rfl)) ?_) | (refine AList.s rfl (step_load1 Tryz.isAgg3 (.tmp _ _ rfl) (by first | assumption | exact (by assumption : Heap.le _ _).objs _ _ (by assumption) | exact Heap.objs_set_same _ _ _ | exact (Heap.objs_set_ne _ _ (by assumption)).trans (Heap.objs_set_same _ _ _) | exact (Heap.objs_set_ne _ _ (by assumption)).trans ((Heap.objs_set_ne _ _ (by assumption)).trans (Heap.objs_set_same _ _ _)) | exact (Heap.objs_set_ne _ _ (by assumption)).trans (by assumption)) rfl) ?_; rintro _ _ ⟨rfl, hH⟩; obtain rfl := hH.symm)
    refine AList.nil ?_
    refine Next.go ?_
    refine AWP.block ?_
    refine AWP.seq ?_
    -- region 6
    refine AWP.region ?_
    refine AList.p rfl (pure_eql (.tmp _ _ rfl) ev_int) ?_
    refine AList.p rfl (pure_assign (.tmp _ _ rfl)) ?_
    refine AList.nil ?_
    refine Next.go ?_
    -- c1
    refine AWP.cond (.tmp _ _ rfl) (fun hc67 => ?_) (fun hc67 => ?_)
    · try simp only [decide_eq_true_eq] at hc67
      refine AWP.seq ?_
      -- region 7
      refine AWP.region ?_
      first | (refine AList.p rfl (pure_fieldI Tryz.underlying27 rfl Tryz.sizeOf22 (.tmp _ _ rfl)) ?_) | (refine AList.p rfl (pure_field Tryz.underlying27 rfl Tryz.sizeOf22 (.tmp _ _ rfl)) ?_)
      first | (refine AList.p rfl (pure_load1 Tryz.isAgg22 (.tmp _ _ rfl)) ?_) | (refine AList.s rfl (step_load1 Tryz.isAgg22 (.tmp _ _ rfl) (by first | assumption | exact (by assumption : Heap.le _ _).objs _ _ (by assumption) | exact Heap.objs_set_same _ _ _ | exact (Heap.objs_set_ne _ _ (by assumption)).trans (Heap.objs_set_same _ _ _) | exact (Heap.objs_set_ne _ _ (by assumption)).trans ((Heap.objs_set_ne _ _ (by assumption)).trans (Heap.objs_set_same _ _ _)) | exact (Heap.objs_set_ne _ _ (by assumption)).trans (by assumption)) rfl) ?_; rintro _ _ ⟨rfl, hH⟩; obtain rfl := hH.symm)
      refine AList.p rfl (pure_lss (.tmp _ _ rfl) ev_int) ?_
      refine AList.p rfl (pure_move (.tmp _ _ rfl)) ?_
      first | (refine AList.lz1 rfl rfl rfl (fun z => pure_fieldI Tryz.underlying27 rfl Tryz.sizeOf9 (.tmp _ _ rfl)) ?_) | (refine AList.lz1 rfl rfl rfl (fun z => pure_field Tryz.underlying27 rfl Tryz.sizeOf9 (.tmp _ _ rfl)) ?_)
      first | (refine AList.lz1 rfl rfl rfl (fun z => pure_load1 Tryz.isAgg9 (.lz rfl z)) ?_) | (refine AList.ls1 rfl rfl rfl (fun z => step_load1 Tryz.isAgg9 (.lz rfl z) (by first | assumption | exact (by assumption : Heap.le _ _).objs _ _ (by assumption) | exact Heap.objs_set_same _ _ _ | exact (Heap.objs_set_ne _ _ (by assumption)).trans (Heap.objs_set_same _ _ _) | exact (Heap.objs_set_ne _ _ (by assumption)).trans ((Heap.objs_set_ne _ _ (by assumption)).trans (Heap.objs_set_same _ _ _)) | exact (Heap.objs_set_ne _ _ (by assumption)).trans (by assumption)) rfl) ?_)
      refine AList.lz1 rfl rfl rfl (fun z => pure_eqlStr (.lz rfl z) (ev_str rfl)) ?_
      refine AList.p rfl (pure_pickA (.tmp _ _ rfl) rfl) ?_
      refine AList.p rfl (pure_move (.tmp _ _ rfl)) ?_
      refine AList.lz1 rfl rfl rfl (fun z => pure_move (.tmp _ _ rfl)) ?_
      refine AList.lz1 rfl rfl rfl (fun z => pure_eql (.lz rfl z) ev_int) ?_
      refine AList.p rfl (pure_pickA (.tmp _ _ rfl) rfl) ?_
      refine AList.p rfl (pure_assign (.tmp _ _ rfl)) ?_
      refine AList.nil ?_
      refine Next.go ?_
      refine AWP.ret ?_
      refine Block.rt ?_
      refine Next.rt ?_
      -- ret 1
      refine Ret.go (.cons (.tmp _ _ rfl) .nil) _ (Heap.le.refl _) ?_
      refine ⟨?_, rfl⟩
      unfold nodeOK
      simp_all [packed]
      all_goals grind
    · try simp only [decide_eq_false_iff_not] at hc67
      refine AWP.seq ?_
      -- region 8
      refine AWP.region ?_
      refine AList.p rfl (pure_eql (.tmp _ _ rfl) ev_int) ?_
      refine AList.p rfl (pure_assign (.tmp _ _ rfl)) ?_
      refine AList.nil ?_
      refine Next.go ?_
      -- c2
      refine AWP.cond (.tmp _ _ rfl) (fun hc81 => ?_) (fun hc81 => ?_)
      · try simp only [decide_eq_true_eq] at hc81
        refine AWP.seq ?_
        -- region 9
        refine AWP.region ?_
        first | (refine AList.p rfl (pure_fieldI Tryz.underlying27 rfl Tryz.sizeOf9 (.tmp _ _ rfl)) ?_) | (refine AList.p rfl (pure_field Tryz.underlying27 rfl Tryz.sizeOf9 (.tmp _ _ rfl)) ?_)
        first | (refine AList.p rfl (pure_load1 Tryz.isAgg9 (.tmp _ _ rfl)) ?_) | (refine AList.s rfl (step_load1 Tryz.isAgg9 (.tmp _ _ rfl) (by first | assumption | exact (by assumption : Heap.le _ _).objs _ _ (by assumption) | exact Heap.objs_set_same _ _ _ | exact (Heap.objs_set_ne _ _ (by assumption)).trans (Heap.objs_set_same _ _ _) | exact (Heap.objs_set_ne _ _ (by assumption)).trans ((Heap.objs_set_ne _ _ (by assumption)).trans (Heap.objs_set_same _ _ _)) | exact (Heap.objs_set_ne _ _ (by assumption)).trans (by assumption)) rfl) ?_; rintro _ _ ⟨rfl, hH⟩; obtain rfl := hH.symm)
        refine AList.p rfl (pure_lenStr Tryz.underlying9 (.tmp _ _ rfl)) ?_
        refine AList.p rfl (pure_leq (.tmp _ _ rfl) ev_int) ?_
        refine AList.p rfl (pure_move (.tmp _ _ rfl)) ?_
        refine AList.lz1 rfl rfl rfl (fun z => pure_move (.tmp _ _ rfl)) ?_
        refine AList.lz1 rfl rfl rfl (fun z => pure_eql (.lz rfl z) ev_int) ?_
        refine AList.p rfl (pure_pickA (.tmp _ _ rfl) rfl) ?_
        refine AList.p rfl (pure_assign (.tmp _ _ rfl)) ?_
        refine AList.nil ?_
        refine Next.go ?_
        refine AWP.ret ?_
        refine Block.rt ?_
        refine Next.rt ?_
        -- ret 2
        refine Ret.go (.cons (.tmp _ _ rfl) .nil) _ (Heap.le.refl _) ?_
        refine ⟨?_, rfl⟩
        unfold nodeOK
        simp_all [packed, nat1000]
        all_goals grind
      · try simp only [decide_eq_false_iff_not] at hc81
        refine AWP.seq ?_
        -- region 10
        refine AWP.region ?_
        refine AList.p rfl (pure_eql (.tmp _ _ rfl) ev_int) ?_
        refine AList.p rfl (pure_assign (.tmp _ _ rfl)) ?_
        refine AList.nil ?_
        refine Next.go ?_
        -- c3
        refine AWP.cond (.tmp _ _ rfl) (fun hc91 => ?_) (fun hc91 => ?_)
        · try simp only [decide_eq_true_eq] at hc91
          refine AWP.seq ?_
          -- region 11
          refine AWP.region ?_
          first | (refine AList.p rfl (pure_fieldI Tryz.underlying27 rfl Tryz.sizeOf9 (.tmp _ _ rfl)) ?_) | (refine AList.p rfl (pure_field Tryz.underlying27 rfl Tryz.sizeOf9 (.tmp _ _ rfl)) ?_)
          first | (refine AList.p rfl (pure_load1 Tryz.isAgg9 (.tmp _ _ rfl)) ?_) | (refine AList.s rfl (step_load1 Tryz.isAgg9 (.tmp _ _ rfl) (by first | assumption | exact (by assumption : Heap.le _ _).objs _ _ (by assumption) | exact Heap.objs_set_same _ _ _ | exact (Heap.objs_set_ne _ _ (by assumption)).trans (Heap.objs_set_same _ _ _) | exact (Heap.objs_set_ne _ _ (by assumption)).trans ((Heap.objs_set_ne _ _ (by assumption)).trans (Heap.objs_set_same _ _ _)) | exact (Heap.objs_set_ne _ _ (by assumption)).trans (by assumption)) rfl) ?_; rintro _ _ ⟨rfl, hH⟩; obtain rfl := hH.symm)
          refine AList.p rfl (pure_eqlStr (.tmp _ _ rfl) (ev_str rfl)) ?_
          refine AList.p rfl (pure_move (.tmp _ _ rfl)) ?_
          refine AList.lz1 rfl rfl rfl (fun z => pure_move (.tmp _ _ rfl)) ?_
          refine AList.lz1 rfl rfl rfl (fun z => pure_eql (.lz rfl z) ev_int) ?_
          refine AList.p rfl (pure_pickA (.tmp _ _ rfl) rfl) ?_
          refine AList.p rfl (pure_assign (.tmp _ _ rfl)) ?_
          refine AList.nil ?_
          refine Next.go ?_
          refine AWP.ret ?_
          refine Block.rt ?_
          refine Next.rt ?_
          -- ret 3
          refine Ret.go (.cons (.tmp _ _ rfl) .nil) _ (Heap.le.refl _) ?_
          refine ⟨?_, rfl⟩
          unfold nodeOK
          simp_all [packed]
          all_goals grind
        · try simp only [decide_eq_false_iff_not] at hc91
          refine AWP.seq ?_
          -- region 12
          refine AWP.region ?_
          refine AList.p rfl (pure_eql (.tmp _ _ rfl) ev_int) ?_
          refine AList.p rfl (pure_assign (.tmp _ _ rfl)) ?_
          refine AList.nil ?_
          refine Next.go ?_
          -- c4
          refine AWP.cond (.tmp _ _ rfl) (fun hc100 => ?_) (fun hc100 => ?_)
          · try simp only [decide_eq_true_eq] at hc100
            refine AWP.seq ?_
            -- region 13
            refine AWP.region ?_
            first | (refine AList.p rfl (pure_fieldI Tryz.underlying27 rfl Tryz.sizeOf3 (.tmp _ _ rfl)) ?_) | (refine AList.p rfl (pure_field Tryz.underlying27 rfl Tryz.sizeOf3 (.tmp _ _ rfl)) ?_)
            first | (refine AList.p rfl (pure_load1 Tryz.isAgg3 (.tmp _ _ rfl)) ?_) | (refine AList.s rfl (step_load1 Tryz.isAgg3 (.tmp _ _ rfl) (by first | assumption | exact (by assumption : Heap.le _ _).objs _ _ (by assumption) | exact Heap.objs_set_same _ _ _ | exact (Heap.objs_set_ne _ _ (by assumption)).trans (Heap.objs_set_same _ _ _) | exact (Heap.objs_set_ne _ _ (by assumption)).trans ((Heap.objs_set_ne _ _ (by assumption)).trans (Heap.objs_set_same _ _ _)) | exact (Heap.objs_set_ne _ _ (by assumption)).trans (by assumption)) rfl) ?_; rintro _ _ ⟨rfl, hH⟩; obtain rfl := hH.symm)
            refine AList.p rfl (pure_geq (.tmp _ _ rfl) ev_int) ?_
            refine AList.p rfl (pure_move (.tmp _ _ rfl)) ?_
            first | (refine AList.lz1 rfl rfl rfl (fun z => pure_fieldI Tryz.underlying27 rfl Tryz.sizeOf3 (.tmp _ _ rfl)) ?_) | (refine AList.lz1 rfl rfl rfl (fun z => pure_field Tryz.underlying27 rfl Tryz.sizeOf3 (.tmp _ _ rfl)) ?_)
            first | (refine AList.lz1 rfl rfl rfl (fun z => pure_load1 Tryz.isAgg3 (.lz rfl z)) ?_) | (refine AList.ls1 rfl rfl rfl (fun z => step_load1 Tryz.isAgg3 (.lz rfl z) (by first | assumption | exact (by assumption : Heap.le _ _).objs _ _ (by assumption) | exact Heap.objs_set_same _ _ _ | exact (Heap.objs_set_ne _ _ (by assumption)).trans (Heap.objs_set_same _ _ _) | exact (Heap.objs_set_ne _ _ (by assumption)).trans ((Heap.objs_set_ne _ _ (by assumption)).trans (Heap.objs_set_same _ _ _)) | exact (Heap.objs_set_ne _ _ (by assumption)).trans (by assumption)) rfl) ?_)
            refine AList.lz1 rfl rfl rfl (fun z => pure_leq (.lz rfl z) ev_int) ?_
            refine AList.p rfl (pure_pickA (.tmp _ _ rfl) rfl) ?_
            refine AList.p rfl (pure_move (.tmp _ _ rfl)) ?_
            first | (refine AList.lz1 rfl rfl rfl (fun z => pure_fieldI Tryz.underlying27 rfl Tryz.sizeOf9 (.tmp _ _ rfl)) ?_) | (refine AList.lz1 rfl rfl rfl (fun z => pure_field Tryz.underlying27 rfl Tryz.sizeOf9 (.tmp _ _ rfl)) ?_)
            first | (refine AList.lz1 rfl rfl rfl (fun z => pure_load1 Tryz.isAgg9 (.lz rfl z)) ?_) | (refine AList.ls1 rfl rfl rfl (fun z => step_load1 Tryz.isAgg9 (.lz rfl z) (by first | assumption | exact (by assumption : Heap.le _ _).objs _ _ (by assumption) | exact Heap.objs_set_same _ _ _ | exact (Heap.objs_set_ne _ _ (by assumption)).trans (Heap.objs_set_same _ _ _) | exact (Heap.objs_set_ne _ _ (by assumption)).trans ((Heap.objs_set_ne _ _ (by assumption)).trans (Heap.objs_set_same _ _ _)) | exact (Heap.objs_set_ne _ _ (by assumption)).trans (by assumption)) rfl) ?_)
            refine AList.lz1 rfl rfl rfl (fun z => pure_eqlStr (.lz rfl z) (ev_str rfl)) ?_
            refine AList.p rfl (pure_pickA (.tmp _ _ rfl) rfl) ?_
            refine AList.p rfl (pure_move (.tmp _ _ rfl)) ?_
            refine AList.lz1 rfl rfl rfl (fun z => pure_move (.tmp _ _ rfl)) ?_
            refine AList.lz1 rfl rfl rfl (fun z => pure_eql (.lz rfl z) ev_int) ?_
            refine AList.p rfl (pure_pickA (.tmp _ _ rfl) rfl) ?_
            refine AList.p rfl (pure_assign (.tmp _ _ rfl)) ?_
            refine AList.nil ?_
            refine Next.go ?_
            refine AWP.ret ?_
            refine Block.rt ?_
            refine Next.rt ?_
            -- ret 4
            refine Ret.go (.cons (.tmp _ _ rfl) .nil) _ (Heap.le.refl _) ?_
            refine ⟨?_, rfl⟩
            unfold nodeOK
            simp_all [packed]
            all_goals grind
          · try simp only [decide_eq_false_iff_not] at hc100
            refine AWP.seq ?_
            -- region 14
            refine AWP.region ?_
            refine AList.p rfl (pure_eql (.tmp _ _ rfl) ev_int) ?_
            refine AList.p rfl (pure_assign (.tmp _ _ rfl)) ?_
            refine AList.nil ?_
            refine Next.go ?_
            -- c5
            refine AWP.cond (.tmp _ _ rfl) (fun hc119 => ?_) (fun hc119 => ?_)
            · try simp only [decide_eq_true_eq] at hc119
              refine AWP.seq ?_
              -- region 15
              refine AWP.region ?_
              first | (refine AList.p rfl (pure_fieldI Tryz.underlying27 rfl Tryz.sizeOf24 (.tmp _ _ rfl)) ?_) | (refine AList.p rfl (pure_field Tryz.underlying27 rfl Tryz.sizeOf24 (.tmp _ _ rfl)) ?_)
              first | (refine AList.p rfl (pure_loadN Tryz.isAgg24 Tryz.sizeOf24 (.tmp _ _ rfl) (Nat.le_of_ble_eq_true rfl)) ?_) | (refine AList.s rfl (step_loadN Tryz.isAgg24 Tryz.sizeOf24 (.tmp _ _ rfl) (by first | assumption | exact (by assumption : Heap.le _ _).objs _ _ (by assumption) | exact Heap.objs_set_same _ _ _ | exact (Heap.objs_set_ne _ _ (by assumption)).trans (Heap.objs_set_same _ _ _) | exact (Heap.objs_set_ne _ _ (by assumption)).trans ((Heap.objs_set_ne _ _ (by assumption)).trans (Heap.objs_set_same _ _ _)) | exact (Heap.objs_set_ne _ _ (by assumption)).trans (by assumption)) (Nat.le_of_ble_eq_true rfl)) ?_; rintro _ _ ⟨rfl, hH⟩; obtain rfl := hH.symm)
              refine AList.s rfl (step_call0 Tryz.call96 (.cons (.tmp _ _ rfl) .nil) (rcRight_calls _ _)) ?_
              rintro _ _ ⟨rfl, hH⟩
              obtain rfl := hH.symm
              refine AList.p rfl (pure_move (.tmp _ _ rfl)) ?_
              first | (refine AList.lz1 rfl rfl rfl (fun z => pure_fieldI Tryz.underlying27 rfl Tryz.sizeOf9 (.tmp _ _ rfl)) ?_) | (refine AList.lz1 rfl rfl rfl (fun z => pure_field Tryz.underlying27 rfl Tryz.sizeOf9 (.tmp _ _ rfl)) ?_)
              first | (refine AList.lz1 rfl rfl rfl (fun z => pure_load1 Tryz.isAgg9 (.lz rfl z)) ?_) | (refine AList.ls1 rfl rfl rfl (fun z => step_load1 Tryz.isAgg9 (.lz rfl z) (by first | assumption | exact (by assumption : Heap.le _ _).objs _ _ (by assumption) | exact Heap.objs_set_same _ _ _ | exact (Heap.objs_set_ne _ _ (by assumption)).trans (Heap.objs_set_same _ _ _) | exact (Heap.objs_set_ne _ _ (by assumption)).trans ((Heap.objs_set_ne _ _ (by assumption)).trans (Heap.objs_set_same _ _ _)) | exact (Heap.objs_set_ne _ _ (by assumption)).trans (by assumption)) rfl) ?_)
              refine AList.lz1 rfl rfl rfl (fun z => pure_eqlStr (.lz rfl z) (ev_str rfl)) ?_
              refine AList.p rfl (pure_pickA (.tmp _ _ rfl) rfl) ?_
              refine AList.p rfl (pure_move (.tmp _ _ rfl)) ?_
              refine AList.lz1 rfl rfl rfl (fun z => pure_move (.tmp _ _ rfl)) ?_
              refine AList.lz1 rfl rfl rfl (fun z => pure_eql (.lz rfl z) ev_int) ?_
              refine AList.p rfl (pure_pickA (.tmp _ _ rfl) rfl) ?_
              refine AList.p rfl (pure_assign (.tmp _ _ rfl)) ?_
              refine AList.nil ?_
              refine Next.go ?_
              refine AWP.ret ?_
              refine Block.rt ?_
              refine Next.rt ?_
              -- ret 5
              refine Ret.go (.cons (.tmp _ _ rfl) .nil) _ (Heap.le.refl _) ?_
              refine ⟨?_, rfl⟩
              unfold nodeOK
              simp_all [packed]
              all_goals grind
            · try simp only [decide_eq_false_iff_not] at hc119
              refine AWP.seq ?_
              -- region 16
              refine AWP.region ?_
              refine AList.p rfl (pure_eql (.tmp _ _ rfl) ev_int) ?_
              refine AList.p rfl (pure_assign (.tmp _ _ rfl)) ?_
              refine AList.nil ?_
              refine Next.go ?_
              -- c6
              refine AWP.cond (.tmp _ _ rfl) (fun hc133 => ?_) (fun hc133 => ?_)
              · try simp only [decide_eq_true_eq] at hc133
                refine AWP.seq ?_
                -- region 17
                refine AWP.region ?_
                first | (refine AList.p rfl (pure_fieldI Tryz.underlying27 rfl Tryz.sizeOf24 (.tmp _ _ rfl)) ?_) | (refine AList.p rfl (pure_field Tryz.underlying27 rfl Tryz.sizeOf24 (.tmp _ _ rfl)) ?_)
                first | (refine AList.p rfl (pure_loadN Tryz.isAgg24 Tryz.sizeOf24 (.tmp _ _ rfl) (Nat.le_of_ble_eq_true rfl)) ?_) | (refine AList.s rfl (step_loadN Tryz.isAgg24 Tryz.sizeOf24 (.tmp _ _ rfl) (by first | assumption | exact (by assumption : Heap.le _ _).objs _ _ (by assumption) | exact Heap.objs_set_same _ _ _ | exact (Heap.objs_set_ne _ _ (by assumption)).trans (Heap.objs_set_same _ _ _) | exact (Heap.objs_set_ne _ _ (by assumption)).trans ((Heap.objs_set_ne _ _ (by assumption)).trans (Heap.objs_set_same _ _ _)) | exact (Heap.objs_set_ne _ _ (by assumption)).trans (by assumption)) (Nat.le_of_ble_eq_true rfl)) ?_; rintro _ _ ⟨rfl, hH⟩; obtain rfl := hH.symm)
                refine AList.s rfl (step_call0 Tryz.call96 (.cons (.tmp _ _ rfl) .nil) (rcRight_calls _ _)) ?_
                rintro _ _ ⟨rfl, hH⟩
                obtain rfl := hH.symm
                refine AList.p rfl (pure_assign (.tmp _ _ rfl)) ?_
                refine AList.nil ?_
                refine Next.go ?_
                refine AWP.seq ?_
                -- region 18
                refine AWP.region ?_
                first | (refine AList.p rfl (pure_fieldI Tryz.underlying27 rfl Tryz.sizeOf24 (.tmp _ _ rfl)) ?_) | (refine AList.p rfl (pure_field Tryz.underlying27 rfl Tryz.sizeOf24 (.tmp _ _ rfl)) ?_)
                first | (refine AList.p rfl (pure_loadN Tryz.isAgg24 Tryz.sizeOf24 (.tmp _ _ rfl) (Nat.le_of_ble_eq_true rfl)) ?_) | (refine AList.s rfl (step_loadN Tryz.isAgg24 Tryz.sizeOf24 (.tmp _ _ rfl) (by first | assumption | exact (by assumption : Heap.le _ _).objs _ _ (by assumption) | exact Heap.objs_set_same _ _ _ | exact (Heap.objs_set_ne _ _ (by assumption)).trans (Heap.objs_set_same _ _ _) | exact (Heap.objs_set_ne _ _ (by assumption)).trans ((Heap.objs_set_ne _ _ (by assumption)).trans (Heap.objs_set_same _ _ _)) | exact (Heap.objs_set_ne _ _ (by assumption)).trans (by assumption)) (Nat.le_of_ble_eq_true rfl)) ?_; rintro _ _ ⟨rfl, hH⟩; obtain rfl := hH.symm)
                refine AList.s rfl (step_call0 Tryz.call96 (.cons (.tmp _ _ rfl) .nil) (rcRight_calls _ _)) ?_
                rintro _ _ ⟨rfl, hH⟩
                obtain rfl := hH.symm
                refine AList.p rfl (pure_assign (.tmp _ _ rfl)) ?_
                refine AList.nil ?_
                refine Next.go ?_
                refine AWP.seq ?_
                -- region 19
                refine AWP.region ?_
                refine AList.p rfl (pure_move (.tmp _ _ rfl)) ?_
                refine AList.p rfl (pure_move (.tmp _ _ rfl)) ?_
                refine AList.lz1 rfl rfl rfl (fun z => pure_move (.tmp _ _ rfl)) ?_
                refine AList.p rfl (pure_pickA (.tmp _ _ rfl) rfl) ?_
                refine AList.p rfl (pure_move (.tmp _ _ rfl)) ?_
                first | (refine AList.lz1 rfl rfl rfl (fun z => pure_fieldI Tryz.underlying27 rfl Tryz.sizeOf9 (.tmp _ _ rfl)) ?_) | (refine AList.lz1 rfl rfl rfl (fun z => pure_field Tryz.underlying27 rfl Tryz.sizeOf9 (.tmp _ _ rfl)) ?_)
                first | (refine AList.lz1 rfl rfl rfl (fun z => pure_load1 Tryz.isAgg9 (.lz rfl z)) ?_) | (refine AList.ls1 rfl rfl rfl (fun z => step_load1 Tryz.isAgg9 (.lz rfl z) (by first | assumption | exact (by assumption : Heap.le _ _).objs _ _ (by assumption) | exact Heap.objs_set_same _ _ _ | exact (Heap.objs_set_ne _ _ (by assumption)).trans (Heap.objs_set_same _ _ _) | exact (Heap.objs_set_ne _ _ (by assumption)).trans ((Heap.objs_set_ne _ _ (by assumption)).trans (Heap.objs_set_same _ _ _)) | exact (Heap.objs_set_ne _ _ (by assumption)).trans (by assumption)) rfl) ?_)
                refine AList.lz1 rfl rfl rfl (fun z => pure_eqlStr (.lz rfl z) (ev_str rfl)) ?_
                refine AList.p rfl (pure_pickA (.tmp _ _ rfl) rfl) ?_
                refine AList.p rfl (pure_move (.tmp _ _ rfl)) ?_
                refine AList.lz1 rfl rfl rfl (fun z => pure_move (.tmp _ _ rfl)) ?_
                refine AList.lz1 rfl rfl rfl (fun z => pure_eql (.lz rfl z) ev_int) ?_
                refine AList.p rfl (pure_pickA (.tmp _ _ rfl) rfl) ?_
                refine AList.p rfl (pure_assign (.tmp _ _ rfl)) ?_
                refine AList.nil ?_
                refine Next.go ?_
                refine AWP.ret ?_
                refine Block.rt ?_
                refine Next.rt ?_
                -- ret 6
                refine Ret.go (.cons (.tmp _ _ rfl) .nil) _ (Heap.le.refl _) ?_
                refine ⟨?_, rfl⟩
                unfold nodeOK
                simp_all [packed]
                all_goals grind
              · try simp only [decide_eq_false_iff_not] at hc133
                refine AWP.seq ?_
                -- region 20
                refine AWP.region ?_
                refine AList.p rfl (pure_eql (.tmp _ _ rfl) ev_int) ?_
                refine AList.p rfl (pure_assign (.tmp _ _ rfl)) ?_
                refine AList.nil ?_
                refine Next.go ?_
                -- c7
                refine AWP.cond (.tmp _ _ rfl) (fun hc154 => ?_) (fun hc154 => ?_)
                · try simp only [decide_eq_true_eq] at hc154
                  refine AWP.seq ?_
                  -- region 21
                  refine AWP.region ?_
                  first | (refine AList.p rfl (pure_fieldI Tryz.underlying27 rfl Tryz.sizeOf9 (.tmp _ _ rfl)) ?_) | (refine AList.p rfl (pure_field Tryz.underlying27 rfl Tryz.sizeOf9 (.tmp _ _ rfl)) ?_)
                  first | (refine AList.p rfl (pure_load1 Tryz.isAgg9 (.tmp _ _ rfl)) ?_) | (refine AList.s rfl (step_load1 Tryz.isAgg9 (.tmp _ _ rfl) (by first | assumption | exact (by assumption : Heap.le _ _).objs _ _ (by assumption) | exact Heap.objs_set_same _ _ _ | exact (Heap.objs_set_ne _ _ (by assumption)).trans (Heap.objs_set_same _ _ _) | exact (Heap.objs_set_ne _ _ (by assumption)).trans ((Heap.objs_set_ne _ _ (by assumption)).trans (Heap.objs_set_same _ _ _)) | exact (Heap.objs_set_ne _ _ (by assumption)).trans (by assumption)) rfl) ?_; rintro _ _ ⟨rfl, hH⟩; obtain rfl := hH.symm)
                  refine AList.p rfl (pure_eqlStr (.tmp _ _ rfl) (ev_str rfl)) ?_
                  refine AList.p rfl (pure_move (.tmp _ _ rfl)) ?_
                  first | (refine AList.lz1 rfl rfl rfl (fun z => pure_fieldI Tryz.underlying27 rfl Tryz.sizeOf9 (.tmp _ _ rfl)) ?_) | (refine AList.lz1 rfl rfl rfl (fun z => pure_field Tryz.underlying27 rfl Tryz.sizeOf9 (.tmp _ _ rfl)) ?_)
                  first | (refine AList.lz1 rfl rfl rfl (fun z => pure_load1 Tryz.isAgg9 (.lz rfl z)) ?_) | (refine AList.ls1 rfl rfl rfl (fun z => step_load1 Tryz.isAgg9 (.lz rfl z) (by first | assumption | exact (by assumption : Heap.le _ _).objs _ _ (by assumption) | exact Heap.objs_set_same _ _ _ | exact (Heap.objs_set_ne _ _ (by assumption)).trans (Heap.objs_set_same _ _ _) | exact (Heap.objs_set_ne _ _ (by assumption)).trans ((Heap.objs_set_ne _ _ (by assumption)).trans (Heap.objs_set_same _ _ _)) | exact (Heap.objs_set_ne _ _ (by assumption)).trans (by assumption)) rfl) ?_)
                  refine AList.lz1 rfl rfl rfl (fun z => pure_eqlStr (.lz rfl z) (ev_str rfl)) ?_
                  refine AList.p rfl (pure_pickO (.tmp _ _ rfl) rfl) ?_
                  refine AList.p rfl (pure_move (.tmp _ _ rfl)) ?_
                  refine AList.lz1 rfl rfl rfl (fun z => pure_move (.tmp _ _ rfl)) ?_
                  refine AList.lz1 rfl rfl rfl (fun z => pure_eql (.lz rfl z) ev_int) ?_
                  refine AList.p rfl (pure_pickA (.tmp _ _ rfl) rfl) ?_
                  refine AList.p rfl (pure_assign (.tmp _ _ rfl)) ?_
                  refine AList.nil ?_
                  refine Next.go ?_
                  refine AWP.ret ?_
                  refine Block.rt ?_
                  refine Next.rt ?_
                  -- ret 7
                  refine Ret.go (.cons (.tmp _ _ rfl) .nil) _ (Heap.le.refl _) ?_
                  refine ⟨?_, rfl⟩
                  unfold nodeOK
                  simp_all [packed, nat1]
                  all_goals grind
                · try simp only [decide_eq_false_iff_not] at hc154
                  refine AWP.seq ?_
                  -- region 22
                  refine AWP.region ?_
                  refine AList.p rfl (pure_eql (.tmp _ _ rfl) ev_int) ?_
                  refine AList.p rfl (pure_assign (.tmp _ _ rfl)) ?_
                  refine AList.nil ?_
                  refine Next.go ?_
                  -- c8
                  refine AWP.cond (.tmp _ _ rfl) (fun hc168 => ?_) (fun hc168 => ?_)
                  · try simp only [decide_eq_true_eq] at hc168
                    refine AWP.seq ?_
                    -- region 23
                    refine AWP.region ?_
                    first | (refine AList.p rfl (pure_fieldI Tryz.underlying27 rfl Tryz.sizeOf9 (.tmp _ _ rfl)) ?_) | (refine AList.p rfl (pure_field Tryz.underlying27 rfl Tryz.sizeOf9 (.tmp _ _ rfl)) ?_)
                    first | (refine AList.p rfl (pure_load1 Tryz.isAgg9 (.tmp _ _ rfl)) ?_) | (refine AList.s rfl (step_load1 Tryz.isAgg9 (.tmp _ _ rfl) (by first | assumption | exact (by assumption : Heap.le _ _).objs _ _ (by assumption) | exact Heap.objs_set_same _ _ _ | exact (Heap.objs_set_ne _ _ (by assumption)).trans (Heap.objs_set_same _ _ _) | exact (Heap.objs_set_ne _ _ (by assumption)).trans ((Heap.objs_set_ne _ _ (by assumption)).trans (Heap.objs_set_same _ _ _)) | exact (Heap.objs_set_ne _ _ (by assumption)).trans (by assumption)) rfl) ?_; rintro _ _ ⟨rfl, hH⟩; obtain rfl := hH.symm)
                    refine AList.s rfl (step_call0 Tryz.call97 (.cons (.tmp _ _ rfl) .nil) (rlevel_calls _ _)) ?_
                    rintro _ _ ⟨rfl, hH⟩
                    obtain rfl := hH.symm
                    refine AList.p rfl (pure_gtr (.tmp _ _ rfl) ev_int) ?_
                    refine AList.p rfl (pure_move (.tmp _ _ rfl)) ?_
                    refine AList.lz1 rfl rfl rfl (fun z => pure_move (.tmp _ _ rfl)) ?_
                    refine AList.lz1 rfl rfl rfl (fun z => pure_eql (.lz rfl z) ev_int) ?_
                    refine AList.p rfl (pure_pickA (.tmp _ _ rfl) rfl) ?_
                    refine AList.p rfl (pure_assign (.tmp _ _ rfl)) ?_
                    refine AList.nil ?_
                    refine Next.go ?_
                    refine AWP.ret ?_
                    refine Block.rt ?_
                    refine Next.rt ?_
                    -- ret 8
                    refine Ret.go (.cons (.tmp _ _ rfl) .nil) _ (Heap.le.refl _) ?_
                    refine ⟨?_, rfl⟩
                    unfold nodeOK
                    simp_all [packed, nat2]
                    all_goals grind
                  · try simp only [decide_eq_false_iff_not] at hc168
                    refine AWP.seq ?_
                    -- region 24
                    refine AWP.region ?_
                    refine AList.p rfl (pure_eql (.tmp _ _ rfl) ev_int) ?_
                    refine AList.p rfl (pure_assign (.tmp _ _ rfl)) ?_
                    refine AList.nil ?_
                    refine Next.go ?_
                    -- c9
                    refine AWP.cond (.tmp _ _ rfl) (fun hc178 => ?_) (fun hc178 => ?_)
                    · try simp only [decide_eq_true_eq] at hc178
                      refine AWP.seq ?_
                      -- region 25
                      refine AWP.region ?_
                      first | (refine AList.p rfl (pure_fieldI Tryz.underlying27 rfl Tryz.sizeOf9 (.tmp _ _ rfl)) ?_) | (refine AList.p rfl (pure_field Tryz.underlying27 rfl Tryz.sizeOf9 (.tmp _ _ rfl)) ?_)
                      first | (refine AList.p rfl (pure_load1 Tryz.isAgg9 (.tmp _ _ rfl)) ?_) | (refine AList.s rfl (step_load1 Tryz.isAgg9 (.tmp _ _ rfl) (by first | assumption | exact (by assumption : Heap.le _ _).objs _ _ (by assumption) | exact Heap.objs_set_same _ _ _ | exact (Heap.objs_set_ne _ _ (by assumption)).trans (Heap.objs_set_same _ _ _) | exact (Heap.objs_set_ne _ _ (by assumption)).trans ((Heap.objs_set_ne _ _ (by assumption)).trans (Heap.objs_set_same _ _ _)) | exact (Heap.objs_set_ne _ _ (by assumption)).trans (by assumption)) rfl) ?_; rintro _ _ ⟨rfl, hH⟩; obtain rfl := hH.symm)
                      refine AList.p rfl (pure_eqlStr (.tmp _ _ rfl) (ev_str rfl)) ?_
                      refine AList.p rfl (pure_move (.tmp _ _ rfl)) ?_
                      refine AList.lz1 rfl rfl rfl (fun z => pure_move (.tmp _ _ rfl)) ?_
                      refine AList.lz1 rfl rfl rfl (fun z => pure_eql (.lz rfl z) ev_int) ?_
                      refine AList.p rfl (pure_pickA (.tmp _ _ rfl) rfl) ?_
                      refine AList.p rfl (pure_assign (.tmp _ _ rfl)) ?_
                      refine AList.nil ?_
                      refine Next.go ?_
                      refine AWP.ret ?_
                      refine Block.rt ?_
                      refine Next.rt ?_
                      -- ret 9
                      refine Ret.go (.cons (.tmp _ _ rfl) .nil) _ (Heap.le.refl _) ?_
                      refine ⟨?_, rfl⟩
                      unfold nodeOK
                      simp_all [packed, nat1]
                      all_goals grind
                    · try simp only [decide_eq_false_iff_not] at hc178
                      refine AWP.seq ?_
                      -- region 26
                      refine AWP.region ?_
                      refine AList.p rfl (pure_eql (.tmp _ _ rfl) ev_int) ?_
                      refine AList.p rfl (pure_assign (.tmp _ _ rfl)) ?_
                      refine AList.nil ?_
                      refine Next.go ?_
                      -- c10
                      refine AWP.cond (.tmp _ _ rfl) (fun hc187 => ?_) (fun hc187 => ?_)
                      · try simp only [decide_eq_true_eq] at hc187
                        refine AWP.seq ?_
                        -- region 27
                        refine AWP.region ?_
                        first | (refine AList.p rfl (pure_fieldI Tryz.underlying27 rfl Tryz.sizeOf9 (.tmp _ _ rfl)) ?_) | (refine AList.p rfl (pure_field Tryz.underlying27 rfl Tryz.sizeOf9 (.tmp _ _ rfl)) ?_)
                        first | (refine AList.p rfl (pure_load1 Tryz.isAgg9 (.tmp _ _ rfl)) ?_) | (refine AList.s rfl (step_load1 Tryz.isAgg9 (.tmp _ _ rfl) (by first | assumption | exact (by assumption : Heap.le _ _).objs _ _ (by assumption) | exact Heap.objs_set_same _ _ _ | exact (Heap.objs_set_ne _ _ (by assumption)).trans (Heap.objs_set_same _ _ _) | exact (Heap.objs_set_ne _ _ (by assumption)).trans ((Heap.objs_set_ne _ _ (by assumption)).trans (Heap.objs_set_same _ _ _)) | exact (Heap.objs_set_ne _ _ (by assumption)).trans (by assumption)) rfl) ?_; rintro _ _ ⟨rfl, hH⟩; obtain rfl := hH.symm)
                        refine AList.s rfl (step_call0 Tryz.call98 (.cons (.tmp _ _ rfl) .nil) (rname_calls _ (by first | assumption | omega) _)) ?_
                        rintro _ _ ⟨rfl, hH⟩
                        obtain rfl := hH.symm
                        refine AList.p rfl (pure_move (.tmp _ _ rfl)) ?_
                        refine AList.lz1 rfl rfl rfl (fun z => pure_move (.tmp _ _ rfl)) ?_
                        refine AList.lz1 rfl rfl rfl (fun z => pure_leq (.lz rfl z) ev_int) ?_
                        refine AList.p rfl (pure_pickA (.tmp _ _ rfl) rfl) ?_
                        refine AList.p rfl (pure_assign (.tmp _ _ rfl)) ?_
                        refine AList.nil ?_
                        refine Next.go ?_
                        refine AWP.ret ?_
                        refine Block.rt ?_
                        refine Next.rt ?_
                        -- ret 10
                        refine Ret.go (.cons (.tmp _ _ rfl) .nil) _ (Heap.le.refl _) ?_
                        refine ⟨?_, rfl⟩
                        unfold nodeOK
                        simp_all [packed, nat30]
                        all_goals grind
                      · try simp only [decide_eq_false_iff_not] at hc187
                        refine AWP.skip ?_
                        refine Block.go ?_
                        refine Next.go ?_
                        refine AWP.seq ?_
                        -- region 28
                        refine AWP.region ?_
                        refine AList.p rfl (pure_assign ev_bool) ?_
                        refine AList.nil ?_
                        refine Next.go ?_
                        refine AWP.ret ?_
                        -- ret 11
                        refine Ret.go (.cons (.tmp _ _ rfl) .nil) _ (Heap.le.refl _) ?_
                        refine ⟨?_, rfl⟩
                        unfold nodeOK
                        simp_all [packed]
                        all_goals grind

end Go.Proofs.YthhcdmmihjhipaaGreatDoor
