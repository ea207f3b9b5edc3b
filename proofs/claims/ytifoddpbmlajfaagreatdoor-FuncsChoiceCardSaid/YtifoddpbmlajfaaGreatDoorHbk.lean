/-
  The functions' names, in the program and in the document; FuncsRight.
-/
import Derived.Test.YtifoddpbmlajfaaGreatDoorHak
import Derived.Test.YtifoddpbmlajfaaGreatDoorH1
namespace Go.Proofs.YtifoddpbmlajfaaGreatDoor
open Go Go.RowKit

def allL : List (List UInt8 × Int × Int) := [([65, 66, 83], 1, 1), ([65, 78, 68], 1, -1), ([65, 86, 69, 82, 65, 71, 69], 0, -1), ([67, 69, 73, 76, 73, 78, 71], 1, 2), ([67, 72, 79, 79, 83, 69], 2, -1), ([67, 79, 76, 85, 77, 78, 83], 1, 1), ([67, 79, 78, 67, 65, 84], 0, -1), ([67, 79, 85, 78, 84], 0, -1), ([67, 79, 85, 78, 84, 65], 0, -1), ([67, 79, 85, 78, 84, 66, 76, 65, 78, 75], 1, 1), ([69, 86, 69, 78], 1, 1), ([69, 88, 65, 67, 84], 2, 2), ([70, 65, 67, 84], 1, 1), ([70, 65, 76, 83, 69], 0, 0), ([70, 73, 78, 68], 2, 3), ([70, 76, 79, 79, 82], 1, 2), ([71, 67, 68], 1, -1), ([73, 70], 2, 3), ([73, 70, 69, 82, 82, 79, 82], 2, 2), ([73, 70, 78, 65], 2, 2), ([73, 78, 68, 69, 88], 2, 3), ([73, 78, 84], 1, 1), ([73, 83, 66, 76, 65, 78, 75], 1, 1), ([73, 83, 69, 82, 82, 79, 82], 1, 1), ([73, 83, 76, 79, 71, 73, 67, 65, 76], 1, 1), ([73, 83, 78, 65], 1, 1), ([73, 83, 78, 85, 77, 66, 69, 82], 1, 1), ([73, 83, 84, 69, 88, 84], 1, 1), ([76, 65, 82, 71, 69], 2, 2), ([76, 67, 77], 1, -1), ([76, 69, 70, 84], 1, 2), ([76, 69, 78], 1, 1), ([76, 79, 87, 69, 82], 1, 1), ([77, 65, 84, 67, 72], 2, 2), ([77, 65, 88], 0, -1), ([77, 69, 68, 73, 65, 78], 0, -1), ([77, 73, 68], 3, 3), ([77, 73, 78], 0, -1), ([77, 79, 68], 2, 2), ([78], 1, 1), ([78, 65], 0, 0), ([78, 79, 84], 1, 1), ([79, 68, 68], 1, 1), ([79, 82], 1, -1), ([80, 73], 0, 0), ([80, 79, 87, 69, 82], 2, 2), ([80, 82, 79, 68, 85, 67, 84], 0, -1), ([81, 85, 79, 84, 73, 69, 78, 84], 2, 2), ([82, 69, 80, 84], 2, 2), ([82, 73, 71, 72, 84], 1, 2), ([82, 79, 85, 78, 68], 2, 2), ([82, 79, 85, 78, 68, 68, 79, 87, 78], 2, 2), ([82, 79, 85, 78, 68, 85, 80], 2, 2), ([82, 79, 87, 83], 1, 1), ([83, 73, 71, 78], 1, 1), ([83, 77, 65, 76, 76], 2, 2), ([83, 81, 82, 84], 1, 1), ([83, 85, 66, 83, 84, 73, 84, 85, 84, 69], 3, 3), ([83, 85, 77], 0, -1), ([83, 85, 77, 83, 81], 0, -1), ([84], 1, 1), ([84, 69, 88, 84], 2, 2), ([84, 82, 73, 77], 1, 1), ([84, 82, 85, 69], 0, 0), ([84, 82, 85, 78, 67], 1, 2), ([85, 80, 80, 69, 82], 1, 1), ([86, 65, 76, 85, 69], 1, 1), ([88, 79, 82], 1, -1)]

def nameL : List (List UInt8) := allL.map fun r => r.1
def rowA (r : List UInt8 × Int × Int) : AV := .agg [.str r.1, .int .i64 r.2.1, .int .i64 r.2.2]
def rowC (r : List UInt8 × Int × Int) : List Cc.V := [.str r.1, .int .i64 r.2.1, .int .i64 r.2.2]
theorem rel_flat {α : Type} {sz : Nat} {f : α → AV} {g : α → List Cc.V} (hlen : ∀ a, (g a).length = sz) (hc : ∀ a, (f a).cells = (g a).map litA) : ∀ (L : List α) (i j : Nat) (x y : AV), (L.map f)[i]? = some x → x.cells[j]? = some y → ∃ v, (L.flatMap g)[i * sz + j]? = some v ∧ y = litA v
  | [], i, j, x, y, h, _ => by simp at h
  | a :: L, 0, j, x, y, h, k => by
    simp only [List.map_cons, List.getElem?_cons_zero, Option.some.injEq] at h
    subst h
    rw [hc, List.getElem?_map] at k
    cases hv : (g a)[j]? with
    | none => rw [hv] at k; cases k
    | some v =>
      rw [hv] at k
      refine ⟨v, ?_, (Option.some.inj k).symm⟩
      have := (List.getElem?_eq_some_iff.1 hv).1
      rw [List.flatMap_cons, Nat.zero_mul, Nat.zero_add, List.getElem?_append_left this]
      exact hv
  | a :: L, i + 1, j, x, y, h, k => by
    simp only [List.map_cons, List.getElem?_cons_succ] at h
    obtain ⟨v, hv, e⟩ := rel_flat hlen hc L i j x y h k
    refine ⟨v, ?_, e⟩
    have e1 : (i + 1) * sz + j = sz + (i * sz + j) := by rw [Nat.add_mul, Nat.one_mul]; omega
    rw [List.flatMap_cons, e1, List.getElem?_append_right (by rw [hlen]; omega), hlen, show sz + (i * sz + j) - sz = i * sz + j by omega]
    exact hv
set_option maxRecDepth 100000 in
theorem names_run : Cc.rowB (Cc.run0 20 15 [] Cc.h0) 1 68 (nameL.flatMap fun s => [Cc.V.str s]) = true := by kernel_rfl
set_option maxRecDepth 100000 in
theorem all_run : Cc.rowB (Cc.run0 20 16 [] Cc.h0) 3 68 (allL.flatMap rowC) = true := by kernel_rfl
theorem allL_len : allL.length = 68 := rfl
theorem nameL_len : nameL.length = 68 := rfl
set_option maxRecDepth 100000 in
theorem fNames_calls (H : Heap) : ACall Tryz.prog 15 [] H (fun y H' => y = .slice 1 (nameL.map .str) .shared ∧ H' = H) :=
  closed_row (nameL.map .str) Tryz.func15 rfl names_run rfl (fun x hx => by obtain ⟨i, _, rfl⟩ := List.mem_map.1 hx; exact ⟨rfl, rfl⟩) (by kernel_rfl) (by kernel_rfl)
    (rel_flat (sz := 1) (f := .str) (g := fun s => [Cc.V.str s]) (fun _ => rfl) (fun _ => rfl) nameL) H
set_option maxRecDepth 100000 in
theorem rAll_calls (H : Heap) : ACall Tryz.prog 16 [] H (fun y H' => y = .slice 3 (allL.map rowA) .shared ∧ H' = H) :=
  closed_row (allL.map rowA) Tryz.func16 rfl all_run rfl (fun x hx => by obtain ⟨i, _, rfl⟩ := List.mem_map.1 hx; exact ⟨rfl, rfl⟩) (by kernel_rfl) (by kernel_rfl)
    (rel_flat (sz := 3) (f := rowA) (g := rowC) (fun _ => rfl) (fun _ => rfl) allL) H

theorem okA_40 {l : List ArgN} (h : okA l = true) : l.length ≤ 40 := by unfold okA at h; rw [Bool.and_eq_true, decide_eq_true_eq] at h; exact h.1
theorem fRightF (a : ArgN) (h : a.fits) (H : Heap) : ACall Tryz.prog 13 [.agg (List.take 4 a.av.cells)] H (fun y H' => y = .bool (ArgOK a) ∧ H' = H) := fRight_calls a h.1 h.2 H
theorem frRightF (a : ArgN) (h : a.fits) (H : Heap) : ACall Tryz.prog 14 [.agg (List.take 4 a.av.cells)] H (fun y H' => y = .bool (ArgOK a) ∧ H' = H) := frRight_calls a h.1 h.2 H

def fr_J (l : List ArgN) (tp : Tail) (H : Heap) : Nat → Env → Heap → Prop := fun k env H1 => ∃ i : Nat, i ≤ l.length ∧ env = [(0, argsS l tp), (4, argsS l .shared), (6, .int .i64 (i : Int))] ∧ H = H1 ∧ k = l.length - i

def fn_J (H : Heap) : Nat → Env → Heap → Prop := fun k env H1 => ∃ i : Nat, i ≤ 68 ∧ env = [(7, .slice 1 (nameL.map .str) .shared), (8, .slice 3 (allL.map rowA) .shared), (9, .int .i64 (i : Int))] ∧ H = H1 ∧ k = 68 - i

set_option maxRecDepth 100000 in
theorem Right_step (l : List ArgN) (tp : Tail) (hf : ∀ a, a ∈ l → a.fits) (H : Heap) : ACall Tryz.prog 4 [argsS l tp] H (fun y H' => y = .bool true ∧ H' = H) := by
  have hn68 := nameL_len
  have ha68 := allL_len
  refine ACall.of_body Tryz.func4 rfl Tryz.ntmps4 Tryz.results4 rfl ?_
  refine AWP.seq ?_
  -- region 0
  refine AWP.region ?_
  refine AList.p rfl (pure_assign ev_bool) ?_
  refine AList.nil ?_
  refine Next.go ?_
  refine AWP.seq ?_
  -- region 1
  refine AWP.region ?_
  refine AList.s rfl (step_call0 Tryz.call5 .nil (shown_calls _)) ?_
  rintro _ _ ⟨rfl, hH⟩
  obtain rfl := hH.symm
  refine AList.p rfl (pure_assign (.tmp _ _ rfl)) ?_
  refine AList.nil ?_
  refine Next.go ?_
  refine AWP.seq ?_
  -- region 2
  refine AWP.region ?_
  refine AList.p rfl (pure_move (.tmp _ _ rfl)) ?_
  refine AList.s rfl (step_call0 Tryz.call12 (.cons (.tmp _ _ rfl) .nil) (same_calls _ _ _)) ?_
  rintro _ _ ⟨rfl, hH⟩
  obtain rfl := hH.symm
  refine AList.p rfl (pure_move (.tmp _ _ rfl)) ?_
  refine AList.p rfl (pure_extract (.tmp _ _ rfl) rfl) ?_
  refine AList.p rfl (pure_extract (.tmp _ _ rfl) rfl) ?_
  refine AList.p rfl (pure_assign (.tmp _ _ rfl)) ?_
  refine AList.p rfl (pure_assign (.tmp _ _ rfl)) ?_
  refine AList.nil ?_
  refine Next.go ?_
  refine AWP.seq ?_
  refine AWP.seq ?_
  -- region 3
  refine AWP.region ?_
  refine AList.p rfl (pure_move (.tmp _ _ rfl)) ?_
  refine AList.p rfl (pure_not (.tmp _ _ rfl)) ?_
  refine AList.p rfl (pure_move (.tmp _ _ rfl)) ?_
  -- the guard in slot 18
  refine bool_casesL (t := 18) rfl (fun hg18 => ?_) (fun hg18 => ?_)
  · have hh18 := hg18; try simp only [Bool.not_eq_true'] at hh18
    refine AList.gn rfl rfl rfl (by first | rfl | assumption) ?_
    refine AList.gn rfl rfl rfl (by first | rfl | assumption) ?_
    refine AList.p rfl (pure_pickT (.tmp _ _ rfl) (by first | rfl | assumption) ev_bool) ?_
    refine AList.nil ?_
    refine Next.go ?_
    -- c0
    refine AWP.cond_true (.tmp _ _ rfl) (by first | rfl | assumption) ?_
    refine AWP.seq ?_
    -- region 4
    refine AWP.region ?_
    refine AList.p rfl (pure_move (.tmp _ _ rfl)) ?_
    refine AList.p rfl (pure_assign (.tmp _ _ rfl)) ?_
    refine AList.nil ?_
    refine Next.go ?_
    refine AWP.ret ?_
    refine Next.rt ?_
    -- ret 0
    refine Ret.go (.cons (.tmp _ _ rfl) .nil) _ (Heap.le.refl _) ?_
    refine ⟨?_, rfl⟩
    simp_all
  · have hh18 := hg18; try simp only [Bool.not_eq_false'] at hh18
    refine AList.gp rfl rfl rfl (by first | rfl | assumption) (pure_move (.tmp _ _ rfl)) ?_
    refine AList.gp rfl rfl rfl (by first | rfl | assumption) (pure_not (.tmp _ _ rfl)) ?_
    refine AList.p rfl (pure_pickF (.tmp _ _ rfl) (by first | rfl | assumption) (.tmp _ _ rfl)) ?_
    refine AList.nil ?_
    refine Next.go ?_
    -- c0
    refine AWP.cond (.tmp _ _ rfl) (fun hc21 => ?_) (fun hc21 => ?_)
    · try simp only [Bool.not_eq_true'] at hc21
      refine AWP.seq ?_
      -- region 4
      refine AWP.region ?_
      refine AList.p rfl (pure_move (.tmp _ _ rfl)) ?_
      refine AList.p rfl (pure_assign (.tmp _ _ rfl)) ?_
      refine AList.nil ?_
      refine Next.go ?_
      refine AWP.ret ?_
      refine Next.rt ?_
      -- ret 1
      refine Ret.go (.cons (.tmp _ _ rfl) .nil) _ (Heap.le.refl _) ?_
      refine ⟨?_, rfl⟩
      simp_all [packed]
    · try simp only [Bool.not_eq_false'] at hc21
      have hsame : sameV l = argsS l .shared := if_pos (by simp_all)
      have hl40 := okA_40 (l := l) (by simp_all)
      rw [hsame] at *
      refine AWP.skip ?_
      refine Next.go ?_
      refine AWP.seq ?_
      refine AWP.seq ?_
      -- region 5
      refine AWP.region ?_
      refine AList.p rfl (pure_assign ev_int) ?_
      refine AList.nil ?_
      refine Next.go ?_
      refine AWP.block ?_
      -- L0
      refine AWP.loopW (fr_J l tp H) (l.length) ⟨0, Nat.zero_le _, rfl, rfl, rfl⟩ (sub_c rfl (sub_c rfl (sub_c rfl sub_n))) (Heap.le.refl _) ?_
      rintro _ _ _ ⟨i, hi, rfl, rfl, rfl⟩
      refine AWP.seq ?_
      refine AWP.seq ?_
      -- region 6
      refine AWP.region ?_
      refine AList.p rfl (pure_move (.tmp _ _ rfl)) ?_
      refine AList.p rfl (pure_move (.tmp _ _ rfl)) ?_
      first | (refine AList.p rfl (pure_lenL Tryz.underlying40 (.tmp _ _ rfl)) ?_) | (refine AList.p rfl (pure_lenS Tryz.underlying40 (.tmp _ _ rfl)) ?_) | (refine AList.p rfl (pure_lenM Tryz.underlying40 (.tmp _ _ rfl)) ?_)
      refine AList.p rfl (pure_lss (.tmp _ _ rfl) (.tmp _ _ rfl)) ?_
      refine AList.nil ?_
      refine Next.go ?_
      -- c1
      refine AWP.cond (.tmp _ _ rfl) (fun hc26 => ?_) (fun hc26 => ?_)
      · try simp only [decide_eq_true_eq] at hc26
        have hil : i < l.length := by omega
        refine AWP.skip ?_
        refine Next.go ?_
        refine AWP.seq ?_
        refine AWP.block ?_
        refine AWP.seq ?_
        -- region 8
        refine AWP.draw [(0, true), (1, true), (2, true), (3, true), (4, true), (5, true), (6, true), (7, true), (8, true), (9, true), (10, true)] rfl (by decide +kernel) ?_
        refine APlan.p rfl rfl (pure_move (.tmp _ _ rfl)) ?_
        refine APlan.p rfl rfl (pure_move (.tmp _ _ rfl)) ?_
        first | (refine APlan.p rfl rfl (pure_indexL Tryz.underlying40 Tryz.sizeOf46 (.tmp _ _ rfl) (.tmp _ _ rfl) (by omega) (by omega)) ?_) | (refine APlan.p rfl rfl (pure_indexM Tryz.underlying40 Tryz.sizeOf46 (.tmp _ _ rfl) (.tmp _ _ rfl) (by omega) (by omega)) ?_)
        first | (refine APlan.p rfl rfl (pure_loadN Tryz.isAgg46 Tryz.sizeOf46 (.tmp _ _ rfl) (Nat.le_of_ble_eq_true rfl)) ?_) | (refine APlan.f rfl rfl (fun _ => step_loadN Tryz.isAgg46 Tryz.sizeOf46 (.tmp _ _ rfl) (by first | assumption | exact (by assumption : Heap.le _ _).objs _ _ (by assumption) | exact Heap.objs_set_same _ _ _ | exact (Heap.objs_set_ne _ _ (by assumption)).trans (Heap.objs_set_same _ _ _) | exact (Heap.objs_set_ne _ _ (by assumption)).trans ((Heap.objs_set_ne _ _ (by assumption)).trans (Heap.objs_set_same _ _ _)) | exact (Heap.objs_set_ne _ _ (by assumption)).trans (by assumption)) (Nat.le_of_ble_eq_true rfl)) ?_)
        refine APlan.f rfl rfl (fun _ => step_call0 Tryz.call13 (.cons (.tmp _ _ rfl) .nil) (fRightF _ (hf _ (List.getElem_mem (by omega))) _)) ?_
        refine APlan.p rfl rfl (pure_move (.tmp _ _ rfl)) ?_
        refine APlan.p rfl rfl (pure_move (.tmp _ _ rfl)) ?_
        first | (refine APlan.p rfl rfl (pure_indexL Tryz.underlying41 Tryz.sizeOf48 (.tmp _ _ rfl) (.tmp _ _ rfl) (by omega) (by omega)) ?_) | (refine APlan.p rfl rfl (pure_indexM Tryz.underlying41 Tryz.sizeOf48 (.tmp _ _ rfl) (.tmp _ _ rfl) (by omega) (by omega)) ?_)
        first | (refine APlan.p rfl rfl (pure_loadN Tryz.isAgg48 Tryz.sizeOf48 (.tmp _ _ rfl) (Nat.le_of_ble_eq_true rfl)) ?_) | (refine APlan.f rfl rfl (fun _ => step_loadN Tryz.isAgg48 Tryz.sizeOf48 (.tmp _ _ rfl) (by first | assumption | exact (by assumption : Heap.le _ _).objs _ _ (by assumption) | exact Heap.objs_set_same _ _ _ | exact (Heap.objs_set_ne _ _ (by assumption)).trans (Heap.objs_set_same _ _ _) | exact (Heap.objs_set_ne _ _ (by assumption)).trans ((Heap.objs_set_ne _ _ (by assumption)).trans (Heap.objs_set_same _ _ _)) | exact (Heap.objs_set_ne _ _ (by assumption)).trans (by assumption)) (Nat.le_of_ble_eq_true rfl)) ?_)
        refine APlan.f rfl rfl (fun _ => step_call0 Tryz.call14 (.cons (.tmp _ _ rfl) .nil) (frRightF _ (hf _ (List.getElem_mem (by omega))) _)) ?_
        refine APlan.p rfl rfl (pure_neqB Tryz.underlying4 (.tmp _ _ rfl) (.tmp _ _ rfl)) ?_
        refine APlan.nil ?_
        refine Next.go ?_
        -- c2
        refine AWP.cond (.tmp _ _ rfl) (fun hc39 => ?_) (fun hc39 => ?_)
        · try simp only [Bool.not_eq_true'] at hc39
          refine AWP.seq ?_
          -- region 9
          refine AWP.region ?_
          refine AList.p rfl (pure_assign ev_bool) ?_
          refine AList.nil ?_
          refine Next.go ?_
          refine AWP.ret ?_
          refine Block.rt ?_
          refine Next.rt ?_
          refine Next.rt ?_
          refine Block.rt ?_
          refine Next.rt ?_
          -- ret 2
          refine Ret.go (.cons (.tmp _ _ rfl) .nil) _ (Heap.le.refl _) ?_
          refine ⟨?_, rfl⟩
          simp_all
        · try simp only [Bool.not_eq_false'] at hc39
          refine AWP.skip ?_
          refine Block.go ?_
          refine Next.go ?_
          -- region 7
          refine AWP.region ?_
          refine AList.p rfl (pure_move (.tmp _ _ rfl)) ?_
          refine AList.p rfl (pure_add (.tmp _ _ rfl) ev_int (by omega)) ?_
          refine AList.p rfl (pure_assign (.tmp _ _ rfl)) ?_
          refine AList.nil ?_
          refine Next.go ?_
          refine Round.mk (J := fr_J l tp H) ⟨i + 1, by omega, rfl, rfl, rfl⟩ (sub_c rfl (sub_c rfl (sub_c rfl sub_n))) (Heap.le.refl _) (by omega)
      · try simp only [decide_eq_false_iff_not, Int.not_lt] at hc26
        refine AWP.exit ?_
        refine Next.ex ?_
        refine Next.ex ?_
        refine Block.hit ?_
        refine Next.go ?_
        refine AWP.seq ?_
        -- region 10
        refine AWP.region ?_
        refine AList.s rfl (step_call0 Tryz.call15 .nil (fNames_calls _)) ?_
        rintro _ _ ⟨rfl, hH⟩
        obtain rfl := hH.symm
        refine AList.p rfl (pure_assign (.tmp _ _ rfl)) ?_
        refine AList.nil ?_
        refine Next.go ?_
        refine AWP.seq ?_
        -- region 11
        refine AWP.region ?_
        refine AList.s rfl (step_call0 Tryz.call16 .nil (rAll_calls _)) ?_
        rintro _ _ ⟨rfl, hH⟩
        obtain rfl := hH.symm
        refine AList.p rfl (pure_assign (.tmp _ _ rfl)) ?_
        refine AList.nil ?_
        refine Next.go ?_
        refine AWP.seq ?_
        refine AWP.seq ?_
        -- region 12
        refine AWP.region ?_
        refine AList.p rfl (pure_move (.tmp _ _ rfl)) ?_
        first | (refine AList.p rfl (pure_lenL Tryz.underlying49 (.tmp _ _ rfl)) ?_) | (refine AList.p rfl (pure_lenS Tryz.underlying49 (.tmp _ _ rfl)) ?_) | (refine AList.p rfl (pure_lenM Tryz.underlying49 (.tmp _ _ rfl)) ?_)
        refine AList.p rfl (pure_move (.tmp _ _ rfl)) ?_
        first | (refine AList.p rfl (pure_lenL Tryz.underlying51 (.tmp _ _ rfl)) ?_) | (refine AList.p rfl (pure_lenS Tryz.underlying51 (.tmp _ _ rfl)) ?_) | (refine AList.p rfl (pure_lenM Tryz.underlying51 (.tmp _ _ rfl)) ?_)
        refine AList.p rfl (pure_neq (.tmp _ _ rfl) (.tmp _ _ rfl)) ?_
        refine AList.nil ?_
        refine Next.go ?_
        -- c3
        refine AWP.cond (.tmp _ _ rfl) (fun hc46 => ?_) (fun hc46 => ?_)
        · try simp only [decide_eq_true_eq, ne_eq] at hc46
          refine AWP.seq ?_
          -- region 13
          refine AWP.region ?_
          refine AList.p rfl (pure_assign ev_bool) ?_
          refine AList.nil ?_
          refine Next.go ?_
          refine AWP.ret ?_
          refine Next.rt ?_
          -- ret 3
          refine Ret.go (.cons (.tmp _ _ rfl) .nil) _ (Heap.le.refl _) ?_
          refine ⟨?_, rfl⟩
          simp_all
        · try simp only [decide_eq_false_iff_not, ne_eq, Decidable.not_not] at hc46
          refine AWP.skip ?_
          refine Next.go ?_
          refine AWP.seq ?_
          refine AWP.seq ?_
          -- region 14
          refine AWP.region ?_
          refine AList.p rfl (pure_assign ev_int) ?_
          refine AList.nil ?_
          refine Next.go ?_
          refine AWP.block ?_
          -- L1
          refine AWP.loopW (fn_J H) (68) ⟨0, Nat.zero_le _, rfl, rfl, rfl⟩ (sub_c rfl (sub_c rfl (sub_c rfl sub_n))) (Heap.le.refl _) ?_
          rintro _ _ _ ⟨i, hi, rfl, rfl, rfl⟩
          refine AWP.seq ?_
          refine AWP.seq ?_
          -- region 15
          refine AWP.region ?_
          refine AList.p rfl (pure_move (.tmp _ _ rfl)) ?_
          refine AList.p rfl (pure_move (.tmp _ _ rfl)) ?_
          first | (refine AList.p rfl (pure_lenL Tryz.underlying51 (.tmp _ _ rfl)) ?_) | (refine AList.p rfl (pure_lenS Tryz.underlying51 (.tmp _ _ rfl)) ?_) | (refine AList.p rfl (pure_lenM Tryz.underlying51 (.tmp _ _ rfl)) ?_)
          refine AList.p rfl (pure_lss (.tmp _ _ rfl) (.tmp _ _ rfl)) ?_
          refine AList.nil ?_
          refine Next.go ?_
          -- c4
          refine AWP.cond (.tmp _ _ rfl) (fun hc50 => ?_) (fun hc50 => ?_)
          · try simp only [decide_eq_true_eq] at hc50
            have hil : i < 68 := by omega
            refine AWP.skip ?_
            refine Next.go ?_
            refine AWP.seq ?_
            refine AWP.block ?_
            refine AWP.seq ?_
            -- region 17
            refine AWP.draw [(0, true), (1, true), (2, true), (3, true), (4, true), (5, true), (6, true), (7, true), (8, true), (9, true)] rfl (by decide +kernel) ?_
            refine APlan.p rfl rfl (pure_move (.tmp _ _ rfl)) ?_
            refine APlan.p rfl rfl (pure_move (.tmp _ _ rfl)) ?_
            first | (refine APlan.p rfl rfl (pure_indexL Tryz.underlying49 Tryz.sizeOf9 (.tmp _ _ rfl) (.tmp _ _ rfl) (by omega) (by omega)) ?_) | (refine APlan.p rfl rfl (pure_indexM Tryz.underlying49 Tryz.sizeOf9 (.tmp _ _ rfl) (.tmp _ _ rfl) (by omega) (by omega)) ?_)
            first | (refine APlan.p rfl rfl (pure_load1 Tryz.isAgg9 (.tmp _ _ rfl)) ?_) | (refine APlan.f rfl rfl (fun _ => step_load1 Tryz.isAgg9 (.tmp _ _ rfl) (by first | assumption | exact (by assumption : Heap.le _ _).objs _ _ (by assumption) | exact Heap.objs_set_same _ _ _ | exact (Heap.objs_set_ne _ _ (by assumption)).trans (Heap.objs_set_same _ _ _) | exact (Heap.objs_set_ne _ _ (by assumption)).trans ((Heap.objs_set_ne _ _ (by assumption)).trans (Heap.objs_set_same _ _ _)) | exact (Heap.objs_set_ne _ _ (by assumption)).trans (by assumption)) rfl) ?_)
            refine APlan.p rfl rfl (pure_move (.tmp _ _ rfl)) ?_
            refine APlan.p rfl rfl (pure_move (.tmp _ _ rfl)) ?_
            first | (refine APlan.p rfl rfl (pure_indexL Tryz.underlying51 Tryz.sizeOf54 (.tmp _ _ rfl) (.tmp _ _ rfl) (by omega) (by omega)) ?_) | (refine APlan.p rfl rfl (pure_indexM Tryz.underlying51 Tryz.sizeOf54 (.tmp _ _ rfl) (.tmp _ _ rfl) (by omega) (by omega)) ?_)
            first | (refine APlan.p rfl rfl (pure_fieldI Tryz.underlying54 rfl Tryz.sizeOf9 (.tmp _ _ rfl)) ?_) | (refine APlan.p rfl rfl (pure_field Tryz.underlying54 rfl Tryz.sizeOf9 (.tmp _ _ rfl)) ?_)
            first | (refine APlan.p rfl rfl (pure_load1 Tryz.isAgg9 (.tmp _ _ rfl)) ?_) | (refine APlan.f rfl rfl (fun _ => step_load1 Tryz.isAgg9 (.tmp _ _ rfl) (by first | assumption | exact (by assumption : Heap.le _ _).objs _ _ (by assumption) | exact Heap.objs_set_same _ _ _ | exact (Heap.objs_set_ne _ _ (by assumption)).trans (Heap.objs_set_same _ _ _) | exact (Heap.objs_set_ne _ _ (by assumption)).trans ((Heap.objs_set_ne _ _ (by assumption)).trans (Heap.objs_set_same _ _ _)) | exact (Heap.objs_set_ne _ _ (by assumption)).trans (by assumption)) rfl) ?_)
            refine APlan.p rfl rfl (pure_neqStr (.tmp _ _ rfl) (.tmp _ _ rfl)) ?_
            refine APlan.nil ?_
            refine Next.go ?_
            -- c5
            refine AWP.cond (.tmp _ _ rfl) (fun hc62 => ?_) (fun hc62 => ?_)
            · try simp only [decide_eq_false_iff_not, Bool.not_eq_true'] at hc62
              exact absurd (List.getElem_map _) hc62
            · try simp only [decide_eq_true_eq, Bool.not_eq_false'] at hc62
              refine AWP.skip ?_
              refine Block.go ?_
              refine Next.go ?_
              -- region 16
              refine AWP.region ?_
              refine AList.p rfl (pure_move (.tmp _ _ rfl)) ?_
              refine AList.p rfl (pure_add (.tmp _ _ rfl) ev_int (by omega)) ?_
              refine AList.p rfl (pure_assign (.tmp _ _ rfl)) ?_
              refine AList.nil ?_
              refine Next.go ?_
              refine Round.mk (J := fn_J H) ⟨i + 1, by omega, rfl, rfl, rfl⟩ (sub_c rfl (sub_c rfl (sub_c rfl sub_n))) (Heap.le.refl _) (by omega)
          · try simp only [decide_eq_false_iff_not, Int.not_lt] at hc50
            refine AWP.exit ?_
            refine Next.ex ?_
            refine Next.ex ?_
            refine Block.hit ?_
            refine Next.go ?_
            refine AWP.seq ?_
            -- region 19
            refine AWP.region ?_
            refine AList.p rfl (pure_assign ev_bool) ?_
            refine AList.nil ?_
            refine Next.go ?_
            refine AWP.ret ?_
            -- ret 4
            refine Ret.go (.cons (.tmp _ _ rfl) .nil) _ (Heap.le.refl _) ?_
            refine ⟨?_, rfl⟩
            simp_all [packed]

end Go.Proofs.YtifoddpbmlajfaaGreatDoor
