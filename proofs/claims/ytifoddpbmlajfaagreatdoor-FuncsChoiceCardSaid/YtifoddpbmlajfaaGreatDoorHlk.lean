/-
  A function asked of values; a caller made.
-/
import Derived.Test.YtifoddpbmlajfaaGreatDoorHkk
namespace Go.Proofs.YtifoddpbmlajfaaGreatDoor
open Go Go.RowKit

theorem zr46 : ∀ g, RelCells g [.bool false, .int .i64 0, .int .i64 0, .slice 5 [] .full] (Value.cells (Go.Value.agg #[Go.Value.bool false, Go.Value.int Go.IntKind.i64 0, Go.Value.int Go.IntKind.i64 0, Go.Value.slice none 0 0])) := fun _ => RelL.cells (.cons (.bool _) (.cons (.int _ _) (.cons (.int _ _) (.cons (.nilSlice _ _) .nil))))
theorem pl46 (fs : Array Field) (hfs : Tryz.prog.underlying 46 = some (.struct fs)) : ∀ (i : Nat) f p, fs[i]? = some f → [(0, 1), (1, 1), (2, 1), (3, 1)][i]? = some p → ∀ w, (sizeOf f.type).run Tryz.prog w = .ok p.2 w := by
  have e := (Option.some.inj (hfs.symm.trans Tryz.underlying46))
  cases e
  intro i f p hf hp w
  match i with
  | 0 => cases hf; cases hp; exact Tryz.sizeOf4 w
  | 1 => cases hf; cases hp; exact Tryz.sizeOf3 w
  | 2 => cases hf; cases hp; exact Tryz.sizeOf3 w
  | 3 => cases hf; cases hp; exact Tryz.sizeOf36 w
  | i + 4 => simp at hp
theorem zr69 : ∀ g, RelCells g [.str [], .str [], .str [], .str [], .str [], .str [], .str [], .bool false, .bool false, .slice 1 [] .full, .ptr none, .ptr none] (Value.cells (Go.Value.agg #[Go.Value.string { data := #[] }, Go.Value.string { data := #[] }, Go.Value.string { data := #[] }, Go.Value.string { data := #[] }, Go.Value.string { data := #[] }, Go.Value.string { data := #[] }, Go.Value.string { data := #[] }, Go.Value.bool false, Go.Value.bool false, Go.Value.slice none 0 0, Go.Value.pointer none, Go.Value.pointer none])) := fun _ => RelL.cells (.cons ((.str [] (Nat.zero_le _))) (.cons ((.str [] (Nat.zero_le _))) (.cons ((.str [] (Nat.zero_le _))) (.cons ((.str [] (Nat.zero_le _))) (.cons ((.str [] (Nat.zero_le _))) (.cons ((.str [] (Nat.zero_le _))) (.cons ((.str [] (Nat.zero_le _))) (.cons (.bool _) (.cons (.bool _) (.cons (.nilSlice _ _) (.cons (.ptr _) (.cons (.ptr _) .nil))))))))))))
theorem pl69 (fs : Array Field) (hfs : Tryz.prog.underlying 69 = some (.struct fs)) : ∀ (i : Nat) f p, fs[i]? = some f → [(0, 10), (10, 1), (11, 1)][i]? = some p → ∀ w, (sizeOf f.type).run Tryz.prog w = .ok p.2 w := by
  have e := (Option.some.inj (hfs.symm.trans Tryz.underlying69))
  cases e
  intro i f p hf hp w
  match i with
  | 0 => cases hf; cases hp; exact Tryz.sizeOf29 w
  | 1 => cases hf; cases hp; exact Tryz.sizeOf64 w
  | 2 => cases hf; cases hp; exact Tryz.sizeOf66 w
  | i + 3 => simp at hp
theorem zr84 : ∀ g, RelCells g [.str [], .str [], .str [], .str [], .str [], .str [], .str [], .bool false, .bool false, .slice 1 [] .full, .ptr none] (Value.cells (Go.Value.agg #[Go.Value.string { data := #[] }, Go.Value.string { data := #[] }, Go.Value.string { data := #[] }, Go.Value.string { data := #[] }, Go.Value.string { data := #[] }, Go.Value.string { data := #[] }, Go.Value.string { data := #[] }, Go.Value.bool false, Go.Value.bool false, Go.Value.slice none 0 0, Go.Value.pointer none])) := fun _ => RelL.cells (.cons ((.str [] (Nat.zero_le _))) (.cons ((.str [] (Nat.zero_le _))) (.cons ((.str [] (Nat.zero_le _))) (.cons ((.str [] (Nat.zero_le _))) (.cons ((.str [] (Nat.zero_le _))) (.cons ((.str [] (Nat.zero_le _))) (.cons ((.str [] (Nat.zero_le _))) (.cons (.bool _) (.cons (.bool _) (.cons (.nilSlice _ _) (.cons (.ptr _) .nil)))))))))))
theorem pl84 (fs : Array Field) (hfs : Tryz.prog.underlying 84 = some (.struct fs)) : ∀ (i : Nat) f p, fs[i]? = some f → [(0, 10), (10, 1)][i]? = some p → ∀ w, (sizeOf f.type).run Tryz.prog w = .ok p.2 w := by
  have e := (Option.some.inj (hfs.symm.trans Tryz.underlying84))
  cases e
  intro i f p hf hp w
  match i with
  | 0 => cases hf; cases hp; exact Tryz.sizeOf29 w
  | 1 => cases hf; cases hp; exact Tryz.sizeOf81 w
  | i + 2 => simp at hp
theorem zr120 : ∀ g, RelCells g [.str [], .str [], .str [], .str [], .str [], .str [], .str [], .bool false, .bool false, .slice 1 [] .full, .ptr none] (Value.cells (Go.Value.agg #[Go.Value.string { data := #[] }, Go.Value.string { data := #[] }, Go.Value.string { data := #[] }, Go.Value.string { data := #[] }, Go.Value.string { data := #[] }, Go.Value.string { data := #[] }, Go.Value.string { data := #[] }, Go.Value.bool false, Go.Value.bool false, Go.Value.slice none 0 0, Go.Value.pointer none])) := fun _ => RelL.cells (.cons ((.str [] (Nat.zero_le _))) (.cons ((.str [] (Nat.zero_le _))) (.cons ((.str [] (Nat.zero_le _))) (.cons ((.str [] (Nat.zero_le _))) (.cons ((.str [] (Nat.zero_le _))) (.cons ((.str [] (Nat.zero_le _))) (.cons ((.str [] (Nat.zero_le _))) (.cons (.bool _) (.cons (.bool _) (.cons (.nilSlice _ _) (.cons (.ptr _) .nil)))))))))))
theorem pl120 (fs : Array Field) (hfs : Tryz.prog.underlying 120 = some (.struct fs)) : ∀ (i : Nat) f p, fs[i]? = some f → [(0, 10), (10, 1)][i]? = some p → ∀ w, (sizeOf f.type).run Tryz.prog w = .ok p.2 w := by
  have e := (Option.some.inj (hfs.symm.trans Tryz.underlying120))
  cases e
  intro i f p hf hp w
  match i with
  | 0 => cases hf; cases hp; exact Tryz.sizeOf29 w
  | 1 => cases hf; cases hp; exact Tryz.sizeOf66 w
  | i + 2 => simp at hp

theorem zr105 : ∀ g, RelCells g (Tryz.zeroCells105.toList.map AV.raw) (Value.cells (.agg Tryz.zeroCells105)) := fun g => raw_cells g _
theorem pl105 (fs : Array Field) (hfs : Tryz.prog.underlying 105 = some (.struct fs)) : ∀ (i : Nat) f p, fs[i]? = some f → [(0, 5607)][i]? = some p → ∀ w, (sizeOf f.type).run Tryz.prog w = .ok p.2 w := by
  have e := (Option.some.inj (hfs.symm.trans Tryz.underlying105))
  cases e
  intro i f p hf hp w
  match i with
  | 0 => cases hf; cases hp; exact Tryz.sizeOf103 w
  | i + 1 => simp at hp

noncomputable def readCells : List AV := (AV.agg (Tryz.zeroCells105.toList.map AV.raw)).cells
theorem readNewF (H : Heap) : ACall Tryz.prog 27 [] H (fun y H' => y = .iptr readCells ∧ H' = H) := by
  refine ACall.of_body Tryz.func27 rfl Tryz.ntmps27 Tryz.results27 rfl ?_
  refine AWP.seq ?_
  -- region 0
  refine AWP.region ?_
  refine AList.p rfl (pure_assign ev_nilptr) ?_
  refine AList.nil ?_
  refine Next.go ?_
  refine AWP.seq ?_
  -- region 1
  refine AWP.region ?_
  refine AList.p rfl (pure_build [(0, 5607)] Tryz.underlying105 Tryz.zeroValue105 (zr105) rfl (pl105 _ Tryz.underlying105) .nil rfl) ?_
  refine AList.s rfl (step_boxI (.tmp _ _ rfl) (.inr ⟨_, rfl⟩)) ?_
  rintro _ _ ⟨rfl, hH⟩
  obtain rfl := hH.symm
  refine AList.p rfl (pure_assign (.tmp _ _ rfl)) ?_
  refine AList.nil ?_
  refine Next.go ?_
  refine AWP.ret ?_
  -- ret 0
  refine Ret.go (.cons (.tmp _ _ rfl) .nil) _ (Heap.le.refl _) ?_
  exact ⟨rfl, rfl⟩

set_option maxRecDepth 100000 in
theorem entryNew_calls (q : FLoc) (H : Heap) : ACall Tryz.prog 36 [.agg q.cs] H (fun y H' => y = .iptr (q.cs ++ [.iptr readCells]) ∧ H' = H) := by
  refine ACall.of_body Tryz.func36 rfl Tryz.ntmps36 Tryz.results36 rfl ?_
  refine AWP.seq ?_
  -- region 0
  refine AWP.region ?_
  refine AList.s rfl (step_boxI (.tmp _ _ rfl) (.inr ⟨_, rfl⟩)) ?_
  rintro _ _ ⟨rfl, hH⟩
  obtain rfl := hH.symm
  refine AList.p rfl (pure_assign ev_nilptr) ?_
  refine AList.nil ?_
  refine Next.go ?_
  refine AWP.seq ?_
  -- region 1
  refine AWP.draw [(0, true), (1, true), (2, true), (3, true), (4, true)] rfl (by decide +kernel) ?_
  first | (refine APlan.p rfl rfl (pure_loadN Tryz.isAgg29 Tryz.sizeOf29 (.tmp _ _ rfl) (Nat.le_of_ble_eq_true rfl)) ?_) | (refine APlan.f rfl rfl (fun _ => step_loadN Tryz.isAgg29 Tryz.sizeOf29 (.tmp _ _ rfl) (by first | assumption | exact (by assumption : Heap.le _ _).objs _ _ (by assumption) | exact Heap.objs_set_same _ _ _ | exact (Heap.objs_set_ne _ _ (by assumption)).trans (Heap.objs_set_same _ _ _) | exact (Heap.objs_set_ne _ _ (by assumption)).trans ((Heap.objs_set_ne _ _ (by assumption)).trans (Heap.objs_set_same _ _ _)) | exact (Heap.objs_set_ne _ _ (by assumption)).trans (by assumption)) (Nat.le_of_ble_eq_true rfl)) ?_)
  refine APlan.f rfl rfl (fun _ => step_call0 Tryz.call27 .nil (readNewF _)) ?_
  refine APlan.p rfl rfl (pure_build [(0, 10), (10, 1)] Tryz.underlying120 Tryz.zeroValue120 (zr120) rfl (pl120 _ Tryz.underlying120) (.cons (.tmp _ _ rfl) (.inr ⟨_, rfl⟩) (.cons (.tmp _ _ rfl) (.inl rfl) .nil)) rfl) ?_
  refine APlan.f rfl rfl (fun _ => step_boxI (.tmp _ _ rfl) (.inr ⟨_, rfl⟩)) ?_
  refine APlan.p rfl rfl (pure_assign (.tmp _ _ rfl)) ?_
  refine APlan.nil ?_
  refine Next.go ?_
  refine AWP.ret ?_
  -- ret 0
  refine Ret.go (.cons (.tmp _ _ rfl) .nil) _ (Heap.le.refl _) ?_
  exact ⟨rfl, rfl⟩

set_option maxRecDepth 100000 in
theorem valueNew_calls (q : FLoc) (H : Heap) : ACall Tryz.prog 26 [.agg q.cs] H (fun y H' => y = .iptr (q.cs ++ [.iptr (q.cs ++ [.iptr readCells])]) ∧ H' = H) := by
  refine ACall.of_body Tryz.func26 rfl Tryz.ntmps26 Tryz.results26 rfl ?_
  refine AWP.seq ?_
  -- region 0
  refine AWP.region ?_
  refine AList.s rfl (step_boxI (.tmp _ _ rfl) (.inr ⟨_, rfl⟩)) ?_
  rintro _ _ ⟨rfl, hH⟩
  obtain rfl := hH.symm
  refine AList.p rfl (pure_assign ev_nilptr) ?_
  refine AList.nil ?_
  refine Next.go ?_
  refine AWP.seq ?_
  -- region 1
  refine AWP.draw [(0, true), (1, true), (2, true), (3, true), (4, true), (5, true)] rfl (by decide +kernel) ?_
  first | (refine APlan.p rfl rfl (pure_loadN Tryz.isAgg29 Tryz.sizeOf29 (.tmp _ _ rfl) (Nat.le_of_ble_eq_true rfl)) ?_) | (refine APlan.f rfl rfl (fun _ => step_loadN Tryz.isAgg29 Tryz.sizeOf29 (.tmp _ _ rfl) (by first | assumption | exact (by assumption : Heap.le _ _).objs _ _ (by assumption) | exact Heap.objs_set_same _ _ _ | exact (Heap.objs_set_ne _ _ (by assumption)).trans (Heap.objs_set_same _ _ _) | exact (Heap.objs_set_ne _ _ (by assumption)).trans ((Heap.objs_set_ne _ _ (by assumption)).trans (Heap.objs_set_same _ _ _)) | exact (Heap.objs_set_ne _ _ (by assumption)).trans (by assumption)) (Nat.le_of_ble_eq_true rfl)) ?_)
  first | (refine APlan.p rfl rfl (pure_loadN Tryz.isAgg29 Tryz.sizeOf29 (.tmp _ _ rfl) (Nat.le_of_ble_eq_true rfl)) ?_) | (refine APlan.f rfl rfl (fun _ => step_loadN Tryz.isAgg29 Tryz.sizeOf29 (.tmp _ _ rfl) (by first | assumption | exact (by assumption : Heap.le _ _).objs _ _ (by assumption) | exact Heap.objs_set_same _ _ _ | exact (Heap.objs_set_ne _ _ (by assumption)).trans (Heap.objs_set_same _ _ _) | exact (Heap.objs_set_ne _ _ (by assumption)).trans ((Heap.objs_set_ne _ _ (by assumption)).trans (Heap.objs_set_same _ _ _)) | exact (Heap.objs_set_ne _ _ (by assumption)).trans (by assumption)) (Nat.le_of_ble_eq_true rfl)) ?_)
  refine APlan.f rfl rfl (fun _ => step_call0 Tryz.call36 (.cons (.tmp _ _ rfl) .nil) (entryNew_calls q _)) ?_
  refine APlan.p rfl rfl (pure_build [(0, 10), (10, 1)] Tryz.underlying84 Tryz.zeroValue84 (zr84) rfl (pl84 _ Tryz.underlying84) (.cons (.tmp _ _ rfl) (.inr ⟨_, rfl⟩) (.cons (.tmp _ _ rfl) (.inl rfl) .nil)) rfl) ?_
  refine APlan.f rfl rfl (fun _ => step_boxI (.tmp _ _ rfl) (.inr ⟨_, rfl⟩)) ?_
  refine APlan.p rfl rfl (pure_assign (.tmp _ _ rfl)) ?_
  refine APlan.nil ?_
  refine Next.go ?_
  refine AWP.ret ?_
  -- ret 0
  refine Ret.go (.cons (.tmp _ _ rfl) .nil) _ (Heap.le.refl _) ?_
  exact ⟨rfl, rfl⟩

noncomputable def opsP (q : FLoc) : AV := .iptr (q.cs ++ [.iptr (q.cs ++ [.iptr readCells])])

set_option maxRecDepth 100000 in
theorem fNew_calls (q : FLoc) (H : Heap) : ACall Tryz.prog 8 [.agg q.cs] H (fun y H' => y = callerA q (opsP q) (.iptr readCells) ∧ H' = H) := by
  refine ACall.of_body Tryz.func8 rfl Tryz.ntmps8 Tryz.results8 rfl ?_
  refine AWP.seq ?_
  -- region 0
  refine AWP.region ?_
  refine AList.s rfl (step_boxI (.tmp _ _ rfl) (.inr ⟨_, rfl⟩)) ?_
  rintro _ _ ⟨rfl, hH⟩
  obtain rfl := hH.symm
  refine AList.p rfl (pure_assign ev_nilptr) ?_
  refine AList.nil ?_
  refine Next.go ?_
  refine AWP.seq ?_
  -- region 1
  refine AWP.draw [(0, true), (1, true), (2, true), (3, true), (4, true), (5, true), (6, true)] rfl (by decide +kernel) ?_
  first | (refine APlan.p rfl rfl (pure_loadN Tryz.isAgg29 Tryz.sizeOf29 (.tmp _ _ rfl) (Nat.le_of_ble_eq_true rfl)) ?_) | (refine APlan.f rfl rfl (fun _ => step_loadN Tryz.isAgg29 Tryz.sizeOf29 (.tmp _ _ rfl) (by first | assumption | exact (by assumption : Heap.le _ _).objs _ _ (by assumption) | exact Heap.objs_set_same _ _ _ | exact (Heap.objs_set_ne _ _ (by assumption)).trans (Heap.objs_set_same _ _ _) | exact (Heap.objs_set_ne _ _ (by assumption)).trans ((Heap.objs_set_ne _ _ (by assumption)).trans (Heap.objs_set_same _ _ _)) | exact (Heap.objs_set_ne _ _ (by assumption)).trans (by assumption)) (Nat.le_of_ble_eq_true rfl)) ?_)
  first | (refine APlan.p rfl rfl (pure_loadN Tryz.isAgg29 Tryz.sizeOf29 (.tmp _ _ rfl) (Nat.le_of_ble_eq_true rfl)) ?_) | (refine APlan.f rfl rfl (fun _ => step_loadN Tryz.isAgg29 Tryz.sizeOf29 (.tmp _ _ rfl) (by first | assumption | exact (by assumption : Heap.le _ _).objs _ _ (by assumption) | exact Heap.objs_set_same _ _ _ | exact (Heap.objs_set_ne _ _ (by assumption)).trans (Heap.objs_set_same _ _ _) | exact (Heap.objs_set_ne _ _ (by assumption)).trans ((Heap.objs_set_ne _ _ (by assumption)).trans (Heap.objs_set_same _ _ _)) | exact (Heap.objs_set_ne _ _ (by assumption)).trans (by assumption)) (Nat.le_of_ble_eq_true rfl)) ?_)
  refine APlan.f rfl rfl (fun _ => step_call0 Tryz.call26 (.cons (.tmp _ _ rfl) .nil) (valueNew_calls q _)) ?_
  refine APlan.f rfl rfl (fun _ => step_call0 Tryz.call27 .nil (readNewF _)) ?_
  refine APlan.p rfl rfl (pure_build [(0, 10), (10, 1), (11, 1)] Tryz.underlying69 Tryz.zeroValue69 (zr69) rfl (pl69 _ Tryz.underlying69) (.cons (.tmp _ _ rfl) (.inr ⟨_, rfl⟩) (.cons (.tmp _ _ rfl) (.inl rfl) (.cons (.tmp _ _ rfl) (.inl rfl) .nil))) rfl) ?_
  refine APlan.f rfl rfl (fun _ => step_boxI (.tmp _ _ rfl) (.inr ⟨_, rfl⟩)) ?_
  refine APlan.p rfl rfl (pure_assign (.tmp _ _ rfl)) ?_
  refine APlan.nil ?_
  refine Next.go ?_
  refine AWP.ret ?_
  -- ret 0
  refine Ret.go (.cons (.tmp _ _ rfl) .nil) _ (Heap.le.refl _) ?_
  exact ⟨rfl, rfl⟩

theorem AStep.lessS {P : Program} {env : Env} {H : Heap} {o : Oper} {sz : Nat} {xs : List AV} {tl : Tail} (h : AStep P o env H (fun r H' => r = .slice sz xs tl ∧ H' = H)) : AStep P o env H (fun r H' => r = .slice sz xs .shared ∧ H' = H) :=
  h.less fun _ H' ⟨hr, hH⟩ => ⟨_, H', hr ▸ Weak.slice _ _ _, Heap.le.refl _, rfl, hH⟩
def oneA (v : Val) : ArgN := ⟨false, 1, 1, [v]⟩
set_option maxRecDepth 100000 in
theorem one_calls (v : Val) (H : Heap) : ACall Tryz.prog 28 [v.av] H (fun y H' => y = (oneA v).av ∧ H' = H) := by
  refine ACall.of_body Tryz.func28 rfl Tryz.ntmps28 Tryz.results28 rfl ?_
  refine AWP.seq ?_
  -- region 0
  refine AWP.region ?_
  refine AList.s rfl (step_boxI (.tmp _ _ rfl) (.inr ⟨_, rfl⟩)) ?_
  rintro _ _ ⟨rfl, hH⟩
  obtain rfl := hH.symm
  refine AList.s rfl (step_alloc Tryz.zeroValue46 (zr46)) ?_
  rintro _ _ ⟨b2, hb2, rfl, hH⟩
  obtain rfl := hH.symm
  refine AList.nil ?_
  refine Next.go ?_
  refine AWP.seq ?_
  -- region 1
  refine AWP.region ?_
  first | (refine AList.p rfl (pure_loadN Tryz.isAgg24 Tryz.sizeOf24 (.tmp _ _ rfl) (Nat.le_of_ble_eq_true rfl)) ?_) | (refine AList.s rfl (step_loadN Tryz.isAgg24 Tryz.sizeOf24 (.tmp _ _ rfl) (by first | assumption | exact (by assumption : Heap.le _ _).objs _ _ (by assumption) | exact Heap.objs_set_same _ _ _ | exact (Heap.objs_set_ne _ _ (by assumption)).trans (Heap.objs_set_same _ _ _) | exact (Heap.objs_set_ne _ _ (by assumption)).trans ((Heap.objs_set_ne _ _ (by assumption)).trans (Heap.objs_set_same _ _ _)) | exact (Heap.objs_set_ne _ _ (by assumption)).trans (by assumption)) (Nat.le_of_ble_eq_true rfl)) ?_; rintro _ _ ⟨rfl, hH⟩; obtain rfl := hH.symm)
  refine AList.s rfl ((step_bs1 Tryz.underlying36 Tryz.sizeOf24 Tryz.zeroValue24 rfl (.tmp _ _ rfl) (.inr ⟨_, rfl⟩) ⟨rfl, rfl⟩).lessS) ?_
  rintro _ _ ⟨rfl, hH⟩
  obtain rfl := hH.symm
  refine AList.p rfl (pure_build [(0, 1), (1, 1), (2, 1), (3, 1)] Tryz.underlying46 Tryz.zeroValue46 (zr46) rfl (pl46 _ Tryz.underlying46) (.cons ev_int (.inl rfl) (.cons ev_int (.inl rfl) (.cons (.tmp _ _ rfl) (.inl rfl) .nil))) rfl) ?_
  refine AList.s0 (step_store Tryz.sizeOf46 (.tmp _ _ rfl) (.tmp _ _ rfl) rfl rfl (.inr ⟨_, rfl⟩) (by first | assumption | exact (by assumption : Heap.le _ _).objs _ _ (by assumption) | exact Heap.objs_set_same _ _ _ | exact (Heap.objs_set_ne _ _ (by assumption)).trans (Heap.objs_set_same _ _ _) | exact (Heap.objs_set_ne _ _ (by assumption)).trans ((Heap.objs_set_ne _ _ (by assumption)).trans (Heap.objs_set_same _ _ _)) | exact (Heap.objs_set_ne _ _ (by assumption)).trans (by assumption)) (Nat.le_of_ble_eq_true rfl)) ?_
  rintro _ _ ⟨rfl, hH⟩
  obtain rfl := hH.symm
  try first | rw [Heap.set_set] | rw [Heap.set_under (by assumption)]
  refine AList.nil ?_
  refine Next.go ?_
  refine AWP.frz (t := 2) rfl (by first | exact hb2 | exact Heap.fresh_set hb2 _) ?_
  refine AWP.ret ?_
  -- ret 0
  refine Ret.go (.cons (.cellI _ _ _ _ rfl Tryz.isAgg46 Tryz.sizeOf46 rfl) .nil) _ (Heap.le.refl _) ?_
  exact ⟨rfl, rfl⟩

set_option maxRecDepth 100000 in
theorem is18_calls (b : Bool) (H : Heap) : ACall Tryz.prog 10 [.bool b] H (fun y H' => y = (BoolV b).av ∧ H' = H) := by
  refine ACall.of_body Tryz.func10 rfl Tryz.ntmps10 Tryz.results10 rfl ?_
  refine AWP.seq ?_
  -- region 0
  refine AWP.region ?_
  refine AList.s rfl (step_alloc Tryz.zeroValue24 (zr24)) ?_
  rintro _ _ ⟨b2, hb2, rfl, hH⟩
  obtain rfl := hH.symm
  refine AList.nil ?_
  refine Next.go ?_
  refine AWP.seq ?_
  -- region 1
  refine AWP.region ?_
  refine AList.p rfl (pure_move (.tmp _ _ rfl)) ?_
  refine AList.p rfl (pure_build [(0, 1), (1, 1), (2, 1), (3, 1), (4, 1)] Tryz.underlying24 Tryz.zeroValue24 (zr24) rfl (pl24 _ Tryz.underlying24) (.cons ev_int (.inl rfl) (.cons (.tmp _ _ rfl) (.inl rfl) .nil)) rfl) ?_
  refine AList.s0 (step_store Tryz.sizeOf24 (.tmp _ _ rfl) (.tmp _ _ rfl) rfl rfl (.inr ⟨_, rfl⟩) (by first | assumption | exact (by assumption : Heap.le _ _).objs _ _ (by assumption) | exact Heap.objs_set_same _ _ _ | exact (Heap.objs_set_ne _ _ (by assumption)).trans (Heap.objs_set_same _ _ _) | exact (Heap.objs_set_ne _ _ (by assumption)).trans ((Heap.objs_set_ne _ _ (by assumption)).trans (Heap.objs_set_same _ _ _)) | exact (Heap.objs_set_ne _ _ (by assumption)).trans (by assumption)) (Nat.le_of_ble_eq_true rfl)) ?_
  rintro _ _ ⟨rfl, hH⟩
  obtain rfl := hH.symm
  try first | rw [Heap.set_set] | rw [Heap.set_under (by assumption)]
  refine AList.nil ?_
  refine Next.go ?_
  refine AWP.frz (t := 2) rfl (by first | exact hb2 | exact Heap.fresh_set hb2 _) ?_
  refine AWP.ret ?_
  -- ret 0
  refine Ret.go (.cons (.cellI _ _ _ _ rfl Tryz.isAgg24 Tryz.sizeOf24 rfl) .nil) _ (Heap.le.refl _) ?_
  exact ⟨rfl, rfl⟩

set_option maxRecDepth 100000 in
theorem fail18_calls (n : Int) (H : Heap) : ACall Tryz.prog 11 [.int .i64 n] H (fun y H' => y = (FailV n).av ∧ H' = H) := by
  refine ACall.of_body Tryz.func11 rfl Tryz.ntmps11 Tryz.results11 rfl ?_
  refine AWP.seq ?_
  -- region 0
  refine AWP.region ?_
  refine AList.s rfl (step_alloc Tryz.zeroValue24 (zr24)) ?_
  rintro _ _ ⟨b2, hb2, rfl, hH⟩
  obtain rfl := hH.symm
  refine AList.nil ?_
  refine Next.go ?_
  refine AWP.seq ?_
  -- region 1
  refine AWP.region ?_
  refine AList.p rfl (pure_move (.tmp _ _ rfl)) ?_
  refine AList.p rfl (pure_build [(0, 1), (1, 1), (2, 1), (3, 1), (4, 1)] Tryz.underlying24 Tryz.zeroValue24 (zr24) rfl (pl24 _ Tryz.underlying24) (.cons ev_int (.inl rfl) (.cons (.tmp _ _ rfl) (.inl rfl) .nil)) rfl) ?_
  refine AList.s0 (step_store Tryz.sizeOf24 (.tmp _ _ rfl) (.tmp _ _ rfl) rfl rfl (.inr ⟨_, rfl⟩) (by first | assumption | exact (by assumption : Heap.le _ _).objs _ _ (by assumption) | exact Heap.objs_set_same _ _ _ | exact (Heap.objs_set_ne _ _ (by assumption)).trans (Heap.objs_set_same _ _ _) | exact (Heap.objs_set_ne _ _ (by assumption)).trans ((Heap.objs_set_ne _ _ (by assumption)).trans (Heap.objs_set_same _ _ _)) | exact (Heap.objs_set_ne _ _ (by assumption)).trans (by assumption)) (Nat.le_of_ble_eq_true rfl)) ?_
  rintro _ _ ⟨rfl, hH⟩
  obtain rfl := hH.symm
  try first | rw [Heap.set_set] | rw [Heap.set_under (by assumption)]
  refine AList.nil ?_
  refine Next.go ?_
  refine AWP.frz (t := 2) rfl (by first | exact hb2 | exact Heap.fresh_set hb2 _) ?_
  refine AWP.ret ?_
  -- ret 0
  refine Ret.go (.cons (.cellI _ _ _ _ rfl Tryz.isAgg24 Tryz.sizeOf24 rfl) .nil) _ (Heap.le.refl _) ?_
  exact ⟨rfl, rfl⟩

theorem Heap.set_drop (H : Heap) (b : Nat) (x : AObj) : H.set b x = (H.drop b).set b x := by
  simp only [Heap.drop, Heap.set]
  congr 1
  funext k
  split <;> rfl
theorem Heap.le_cut {H H1 : Heap} {b : Nat} {z : AObj} (hb : H.objs b = none) (h : (H.set b z).le H1) : H.le (H1.drop b) := by
  have h1 := (Heap.le_set hb z).trans h
  refine ⟨fun c x hc => ?_, h1.toks⟩
  have hne : c ≠ b := by rintro rfl; rw [hb] at hc; cases hc
  show (if c = b then none else H1.objs c) = some x
  rw [if_neg hne]
  exact h1.objs c x hc

def asks_J (p : AV) (nm : List UInt8) (l : List Val) (tl : Tail) (b6 : Nat) (H : Heap) : Nat → Env → Heap → Prop := fun k env H1 => ∃ (i t : Nat), i ≤ l.length ∧ env = [(0, p), (1, .str nm), (2, vsS l tl), (6, .ptr (some ⟨b6, 0, none⟩)), (7, .slice 4 ((l.take i).map fun v => (oneA v).av) (.own t)), (8, .int .i64 (i : Int))] ∧ H.le H1 ∧ H1.toks t = true ∧ H.toks t = false ∧ k = l.length - i

theorem row_ones (l : List Val) : ∀ x, x ∈ l.map (fun v => (oneA v).av) → x.row 4 := fun x hx => by
  obtain ⟨i, _, rfl⟩ := List.mem_map.1 hx
  exact ⟨rfl, rfl⟩
theorem args_ones (l : List Val) : ((l.map oneA).map ArgN.av) = l.map fun v => (oneA v).av := by rw [List.map_map]; rfl

set_option maxRecDepth 100000 in
theorem asks_calls (p : AV) (nm : List UInt8) (l : List Val) (tl : Tail) (hm : l.length ≤ 1000) (r : Val) (hc : ∀ tl H, ACall Tryz.prog 19 [p, .str nm, argsS (l.map oneA) tl] H (fun y H' => y = r.av ∧ H' = H)) (H : Heap) : ACall Tryz.prog 9 [p, .str nm, vsS l tl] H (fun y H' => y = r.av ∧ H' = H) := by
  refine ACall.of_body Tryz.func9 rfl Tryz.ntmps9 Tryz.results9 rfl ?_
  refine AWP.seq ?_
  -- region 0
  refine AWP.region ?_
  refine AList.s rfl (step_alloc Tryz.zeroValue24 (zr24)) ?_
  rintro _ _ ⟨b6, hb6, rfl, hH⟩
  obtain rfl := hH.symm
  refine AList.nil ?_
  refine Next.go ?_
  refine AWP.seq ?_
  have hle2 := Heap.le.refl (H.set b6 (.box 24 [.int .i64 0, .int .u64 0, .bool false, .str [], .int .i64 0]))
  -- region 1
  refine AWP.region ?_
  refine AList.p rfl (pure_assign (ev_nil (sz := 4) (tl := .full))) ?_
  refine AList.nil ?_
  refine Next.go ?_
  refine AWP.seq ?_
  refine AWP.seq ?_
  -- region 2
  refine AWP.region ?_
  refine AList.p rfl (pure_assign ev_int) ?_
  refine AList.nil ?_
  refine Next.go ?_
  refine AWP.block ?_
  -- L0
  refine AWP.tag (t := 7) rfl (fun u7 hu7 => ?_)
  have hfu7 := Heap.fresh_of hle2 hu7
  have hleu7 := Heap.le_in hle2 u7
  refine AWP.loopW (asks_J p nm l tl b6 (H.set b6 (.box 24 [.int .i64 0, .int .u64 0, .bool false, .str [], .int .i64 0]))) (l.length) ⟨0, u7, Nat.zero_le _, rfl, hleu7, Heap.toks_live_same _ _, hfu7, rfl⟩ (sub_c rfl (sub_c rfl (sub_c rfl (sub_c rfl (sub_c rfl (sub_c rfl sub_n)))))) (Heap.le.refl _) ?_
  rintro _ _ H1 ⟨i, t, hi, rfl, hle1, hlive, hfr, rfl⟩
  refine AWP.seq ?_
  refine AWP.seq ?_
  -- region 3
  refine AWP.region ?_
  refine AList.p rfl (pure_move (.tmp _ _ rfl)) ?_
  refine AList.p rfl (pure_move (.tmp _ _ rfl)) ?_
  first | (refine AList.p rfl (pure_lenL Tryz.underlying36 (.tmp _ _ rfl)) ?_) | (refine AList.p rfl (pure_lenS Tryz.underlying36 (.tmp _ _ rfl)) ?_) | (refine AList.p rfl (pure_lenM Tryz.underlying36 (.tmp _ _ rfl)) ?_)
  refine AList.p rfl (pure_lss (.tmp _ _ rfl) (.tmp _ _ rfl)) ?_
  refine AList.nil ?_
  refine Next.go ?_
  -- c0
  refine AWP.cond (.tmp _ _ rfl) (fun hc12 => ?_) (fun hc12 => ?_)
  · try simp only [decide_eq_true_eq] at hc12
    have hip : i < l.length := by omega
    refine AWP.skip ?_
    refine Next.go ?_
    refine AWP.seq ?_
    refine AWP.block ?_
    -- region 5
    refine AWP.region ?_
    refine AList.p rfl (pure_move (.tmp _ _ rfl)) ?_
    refine AList.p rfl (pure_move (.tmp _ _ rfl)) ?_
    refine AList.p rfl (pure_move (.tmp _ _ rfl)) ?_
    first | (refine AList.p rfl (pure_indexL Tryz.underlying36 Tryz.sizeOf24 (.tmp _ _ rfl) (.tmp _ _ rfl) (by omega) (by omega)) ?_) | (refine AList.p rfl (pure_indexM Tryz.underlying36 Tryz.sizeOf24 (.tmp _ _ rfl) (.tmp _ _ rfl) (by omega) (by omega)) ?_)
    first | (refine AList.p rfl (pure_loadN Tryz.isAgg24 Tryz.sizeOf24 (.tmp _ _ rfl) (Nat.le_of_ble_eq_true rfl)) ?_) | (refine AList.s rfl (step_loadN Tryz.isAgg24 Tryz.sizeOf24 (.tmp _ _ rfl) (by first | exact hle1.objs _ _ (Heap.objs_set_same _ _ _) | assumption | exact (by assumption : Heap.le _ _).objs _ _ (by assumption) | exact Heap.objs_set_same _ _ _ | exact (Heap.objs_set_ne _ _ (by assumption)).trans (Heap.objs_set_same _ _ _) | exact (Heap.objs_set_ne _ _ (by assumption)).trans ((Heap.objs_set_ne _ _ (by assumption)).trans (Heap.objs_set_same _ _ _)) | exact (Heap.objs_set_ne _ _ (by assumption)).trans (by assumption)) (Nat.le_of_ble_eq_true rfl)) ?_; rintro _ _ ⟨rfl, hH⟩; obtain rfl := hH.symm)
    refine AList.s rfl (step_call0 Tryz.call28 (.cons (.tmp _ _ rfl) .nil) (one_calls _ _)) ?_
    rintro _ _ ⟨rfl, hH⟩
    obtain rfl := hH.symm
    refine AList.s rfl (step_bs1 Tryz.underlying40 Tryz.sizeOf46 Tryz.zeroValue46 rfl (.tmp _ _ rfl) (.inr ⟨_, rfl⟩) ⟨rfl, rfl⟩) ?_
    rintro _ _ ⟨rfl, hH⟩
    obtain rfl := hH.symm
    refine AList.s rfl (step_append Tryz.underlying40 Tryz.underlying40 Tryz.sizeOf46 Tryz.typeInfo46 Tryz.zeroValue46 rfl (by decide) (.tmp _ _ rfl) (.tmp _ _ rfl) (by exact .own _ hlive) (by show (_ + _) * 48 ≤ _; simp; try omega) (by repeat' (first | exact row_int _ | exact row_n | exact row_c ⟨rfl, rfl⟩ row_n | exact row_drop (row_int _) | exact row_take (row_int _) | refine row_app ?_ ?_ | exact row_ones _)) (by repeat' (first | exact row_int _ | exact row_n | exact row_c ⟨rfl, rfl⟩ row_n | exact row_drop (row_int _) | exact row_take (row_int _) | refine row_app ?_ ?_))) ?_
    rintro _ _ ⟨t22, ht22, rfl, hH⟩
    obtain rfl := hH.symm
    have hf22 := Heap.fresh_of hle1 ht22
    have hle22 := Heap.le_in (Heap.le_out (t := t) hle1 (by assumption)) t22
    refine AList.p rfl (pure_assign (.tmp _ _ rfl)) ?_
    refine AList.nil ?_
    refine Block.go ?_
    refine Next.go ?_
    -- region 4
    refine AWP.region ?_
    refine AList.p rfl (pure_move (.tmp _ _ rfl)) ?_
    refine AList.p rfl (pure_add (.tmp _ _ rfl) ev_int (by omega)) ?_
    refine AList.p rfl (pure_assign (.tmp _ _ rfl)) ?_
    refine AList.nil ?_
    refine Next.go ?_
    refine Round.mk (J := asks_J p nm l tl b6 (H.set b6 (.box 24 [.int .i64 0, .int .u64 0, .bool false, .str [], .int .i64 0]))) ⟨i + 1, t22, by omega, rfl, hle22, Heap.toks_live_same _ _, hf22, rfl⟩ (sub_c rfl (sub_c rfl (sub_c rfl (sub_c rfl (sub_e rfl (slice_eq (take_snocA (fun v => (oneA v).av) hip).symm) (sub_c rfl sub_n)))))) (Heap.le.refl _) (by omega)
  · try simp only [decide_eq_false_iff_not, Int.not_lt] at hc12
    have hil : l.length ≤ i := by omega
    rw [List.take_of_length_le hil]
    rw [← args_ones]
    refine AWP.exit ?_
    refine Next.ex ?_
    refine Next.ex ?_
    refine Block.hit ?_
    refine Next.go ?_
    refine AWP.seq ?_
    -- region 6
    refine AWP.region ?_
    refine AList.p rfl (pure_move (.tmp _ _ rfl)) ?_
    refine AList.p rfl (pure_move (.tmp _ _ rfl)) ?_
    refine AList.p rfl (pure_move (.tmp _ _ rfl)) ?_
    refine AList.s rfl (step_call0 Tryz.call19 (.cons (.tmp _ _ rfl) (.cons (.tmp _ _ rfl) (.cons (.tmp _ _ rfl) .nil))) (hc _ _)) ?_
    rintro _ _ ⟨rfl, hH⟩
    obtain rfl := hH.symm
    refine AList.s0 (step_store Tryz.sizeOf24 (.tmp _ _ rfl) (.tmp _ _ rfl) rfl rfl (.inr ⟨_, rfl⟩) (by first | exact hle1.objs _ _ (Heap.objs_set_same _ _ _) | assumption | exact (by assumption : Heap.le _ _).objs _ _ (by assumption) | exact Heap.objs_set_same _ _ _ | exact (Heap.objs_set_ne _ _ (by assumption)).trans (Heap.objs_set_same _ _ _) | exact (Heap.objs_set_ne _ _ (by assumption)).trans ((Heap.objs_set_ne _ _ (by assumption)).trans (Heap.objs_set_same _ _ _)) | exact (Heap.objs_set_ne _ _ (by assumption)).trans (by assumption)) (Nat.le_of_ble_eq_true rfl)) ?_
    rintro _ _ ⟨rfl, hH⟩
    obtain rfl := hH.symm
    try first | rw [Heap.set_set] | rw [Heap.set_under (by assumption)]
    refine AList.nil ?_
    refine Next.go ?_
    rw [Heap.set_drop]
    refine AWP.frz (t := 6) rfl (Heap.objs_drop _ _) ?_
    refine AWP.ret ?_
    -- ret 0
    refine Ret.go (.cons (.cellI _ _ _ _ rfl Tryz.isAgg24 Tryz.sizeOf24 rfl) .nil) _ (Heap.le_cut hb6 hle1) ?_
    exact ⟨rfl, rfl⟩

end Go.Proofs.YtifoddpbmlajfaaGreatDoor
