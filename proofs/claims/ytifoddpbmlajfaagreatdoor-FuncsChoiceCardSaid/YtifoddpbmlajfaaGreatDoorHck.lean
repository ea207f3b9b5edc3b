/-
  A call of a function: its arguments and its first error.
-/
import Derived.Test.YtifoddpbmlajfaaGreatDoorH2
import Derived.Test.YtifoddpbmlajfaaGreatDoorVqk
import Derived.Test.YtifoddpbmlajfaaGreatDoorS7
namespace Go.Proofs.YtifoddpbmlajfaaGreatDoor
open Go Go.RowKit


def callC (cp : AV) (l : List ArgN) (tl : Tail) (f : Int) : List AV := [cp, argsS l tl, .int .i64 f]
def callB (cp : AV) (l : List ArgN) (tl : Tail) (f : Int) : AObj := .box 79 (callC cp l tl f)
def wrongF (f n : Int) : Int := if f = 0 then n else f
def scalarV (a : ArgN) : Val := match a.cells with
  | [v] => v
  | _ => FailV 3
theorem scalar_one {a : ArgN} {v : Val} (h : a.cells.length = 1) (hv : a.cells[0]? = some v) : scalarV a = v := by
  unfold scalarV
  match hc : a.cells, h with
  | [w], _ => rw [hc] at hv; exact Option.some.inj hv
theorem scalar_no {a : ArgN} (h : ¬ a.cells.length = 1) : scalarV a = FailV 3 := by
  unfold scalarV
  split
  · rename_i v e; rw [e] at h; exact absurd rfl h
  · rfl
set_option maxRecDepth 100000 in
theorem wrong_calls (b : Nat) (cp : AV) (l : List ArgN) (tl : Tail) (f : Int) (n : Int) (H : Heap) (hb : H.objs b = some (callB cp l tl f)) : ACall Tryz.prog 65 [.ptr (some ⟨b, 0, none⟩), .int .i64 n] H (fun y H' => y = .tuple [] ∧ H' = H.set b (callB cp l tl (wrongF f n))) := by
  refine ACall.of_body Tryz.func65 rfl Tryz.ntmps65 Tryz.results65 rfl ?_
  refine AWP.seq ?_
  -- region 0
  refine AWP.region ?_
  refine AList.p rfl (pure_move (.tmp _ _ rfl)) ?_
  first | (refine AList.p rfl (pure_nilCheckI (.tmp _ _ rfl)) ?_) | (refine AList.p rfl (pure_nilCheck (.tmp _ _ rfl)) ?_) | (refine AList.p rfl (pure_nilCheckF (.tmp _ _ rfl)) ?_)
  first | (refine AList.p rfl (pure_fieldI Tryz.underlying79 rfl Tryz.sizeOf3 (.tmp _ _ rfl)) ?_) | (refine AList.p rfl (pure_field Tryz.underlying79 rfl Tryz.sizeOf3 (.tmp _ _ rfl)) ?_)
  first | (refine AList.p rfl (pure_load1 Tryz.isAgg3 (.tmp _ _ rfl)) ?_) | (refine AList.s rfl (step_load1 Tryz.isAgg3 (.tmp _ _ rfl) (by first | exact hb | assumption | exact (by assumption : Heap.le _ _).objs _ _ (by assumption) | exact Heap.objs_set_same _ _ _ | exact (Heap.objs_set_ne _ _ (by assumption)).trans (Heap.objs_set_same _ _ _) | exact (Heap.objs_set_ne _ _ (by assumption)).trans ((Heap.objs_set_ne _ _ (by assumption)).trans (Heap.objs_set_same _ _ _)) | exact (Heap.objs_set_ne _ _ (by assumption)).trans (by assumption)) rfl) ?_; rintro _ _ ⟨rfl, hH⟩; obtain rfl := hH.symm)
  refine AList.p rfl (pure_eql (.tmp _ _ rfl) ev_int) ?_
  refine AList.nil ?_
  refine Next.go ?_
  -- c0
  refine AWP.cond (.tmp _ _ rfl) (fun hc8 => ?_) (fun hc8 => ?_)
  · try simp only [decide_eq_true_eq] at hc8
    have hw : wrongF f n = n := if_pos hc8
    -- region 1
    refine AWP.region ?_
    refine AList.p rfl (pure_move (.tmp _ _ rfl)) ?_
    refine AList.p rfl (pure_move (.tmp _ _ rfl)) ?_
    first | (refine AList.p rfl (pure_nilCheckI (.tmp _ _ rfl)) ?_) | (refine AList.p rfl (pure_nilCheck (.tmp _ _ rfl)) ?_) | (refine AList.p rfl (pure_nilCheckF (.tmp _ _ rfl)) ?_)
    first | (refine AList.p rfl (pure_fieldI Tryz.underlying79 rfl Tryz.sizeOf3 (.tmp _ _ rfl)) ?_) | (refine AList.p rfl (pure_field Tryz.underlying79 rfl Tryz.sizeOf3 (.tmp _ _ rfl)) ?_)
    refine AList.s0 (step_store Tryz.sizeOf3 (.tmp _ _ rfl) (.tmp _ _ rfl) rfl rfl (.inl rfl) (by first | exact hb | assumption | exact (by assumption : Heap.le _ _).objs _ _ (by assumption) | exact Heap.objs_set_same _ _ _ | exact (Heap.objs_set_ne _ _ (by assumption)).trans (Heap.objs_set_same _ _ _) | exact (Heap.objs_set_ne _ _ (by assumption)).trans ((Heap.objs_set_ne _ _ (by assumption)).trans (Heap.objs_set_same _ _ _)) | exact (Heap.objs_set_ne _ _ (by assumption)).trans (by assumption)) (Nat.le_of_ble_eq_true rfl)) ?_
    rintro _ _ ⟨rfl, hH⟩
    obtain rfl := hH.symm
    try first | rw [Heap.set_set] | rw [Heap.set_under (by assumption)]
    refine AList.nil ?_
    -- ret 0
    refine Ret.go' .nil _ (Heap.le.refl _) ?_
    refine ⟨rfl, ?_⟩
    rw [hw]
    first | rfl | exact (Heap.set_self hb).symm
  · try simp only [decide_eq_false_iff_not] at hc8
    have hw : wrongF f n = f := if_neg hc8
    refine AWP.skip ?_
    -- ret 1
    refine Ret.go' .nil _ (Heap.le.refl _) ?_
    refine ⟨rfl, ?_⟩
    rw [hw]
    first | rfl | exact (Heap.set_self hb).symm

set_option maxRecDepth 100000 in
theorem scalar_calls (b : Nat) (cp : AV) (l : List ArgN) (tl : Tail) (f : Int) (i : Nat) (hi : i < l.length) (_ : l.length ≤ 1000) (H : Heap) (hb : H.objs b = some (callB cp l tl f)) : ACall Tryz.prog 80 [.ptr (some ⟨b, 0, none⟩), .int .i64 (i : Int)] H (fun y H' => y = (scalarV l[i]).av ∧ H' = H) := by
  refine ACall.of_body Tryz.func80 rfl Tryz.ntmps80 Tryz.results80 rfl ?_
  refine AWP.seq ?_
  -- region 0
  refine AWP.region ?_
  refine AList.s rfl (step_alloc Tryz.zeroValue24 (zr24)) ?_
  rintro _ _ ⟨b4, hb4, rfl, hH⟩
  obtain rfl := hH.symm
  refine AList.nil ?_
  refine Next.go ?_
  refine AWP.seq ?_
  refine AWP.seq ?_
  have hne4 : b ≠ b4 := by rintro rfl; rw [hb] at hb4; cases hb4
  -- region 1
  refine AWP.region ?_
  refine AList.p rfl (pure_move (.tmp _ _ rfl)) ?_
  first | (refine AList.p rfl (pure_nilCheckI (.tmp _ _ rfl)) ?_) | (refine AList.p rfl (pure_nilCheck (.tmp _ _ rfl)) ?_) | (refine AList.p rfl (pure_nilCheckF (.tmp _ _ rfl)) ?_)
  first | (refine AList.p rfl (pure_fieldI Tryz.underlying79 rfl Tryz.sizeOf40 (.tmp _ _ rfl)) ?_) | (refine AList.p rfl (pure_field Tryz.underlying79 rfl Tryz.sizeOf40 (.tmp _ _ rfl)) ?_)
  first | (refine AList.p rfl (pure_load1 Tryz.isAgg40 (.tmp _ _ rfl)) ?_) | (refine AList.s rfl (step_load1 Tryz.isAgg40 (.tmp _ _ rfl) (by first | exact hb | assumption | exact (by assumption : Heap.le _ _).objs _ _ (by assumption) | exact Heap.objs_set_same _ _ _ | exact (Heap.objs_set_ne _ _ (by assumption)).trans (Heap.objs_set_same _ _ _) | exact (Heap.objs_set_ne _ _ (by assumption)).trans ((Heap.objs_set_ne _ _ (by assumption)).trans (Heap.objs_set_same _ _ _)) | exact (Heap.objs_set_ne _ _ (by assumption)).trans (by assumption)) rfl) ?_; rintro _ _ ⟨rfl, hH⟩; obtain rfl := hH.symm)
  refine AList.p rfl (pure_move (.tmp _ _ rfl)) ?_
  first | (refine AList.p rfl (pure_indexL Tryz.underlying40 Tryz.sizeOf46 (.tmp _ _ rfl) (.tmp _ _ rfl) (by omega) (by omega)) ?_) | (refine AList.p rfl (pure_indexM Tryz.underlying40 Tryz.sizeOf46 (.tmp _ _ rfl) (.tmp _ _ rfl) (by omega) (by omega)) ?_)
  first | (refine AList.p rfl (pure_fieldI Tryz.underlying46 rfl Tryz.sizeOf36 (.tmp _ _ rfl)) ?_) | (refine AList.p rfl (pure_field Tryz.underlying46 rfl Tryz.sizeOf36 (.tmp _ _ rfl)) ?_)
  first | (refine AList.p rfl (pure_load1 Tryz.isAgg36 (.tmp _ _ rfl)) ?_) | (refine AList.s rfl (step_load1 Tryz.isAgg36 (.tmp _ _ rfl) (by first | exact hb | assumption | exact (by assumption : Heap.le _ _).objs _ _ (by assumption) | exact Heap.objs_set_same _ _ _ | exact (Heap.objs_set_ne _ _ (by assumption)).trans (Heap.objs_set_same _ _ _) | exact (Heap.objs_set_ne _ _ (by assumption)).trans ((Heap.objs_set_ne _ _ (by assumption)).trans (Heap.objs_set_same _ _ _)) | exact (Heap.objs_set_ne _ _ (by assumption)).trans (by assumption)) rfl) ?_; rintro _ _ ⟨rfl, hH⟩; obtain rfl := hH.symm)
  refine AList.p rfl (pure_assign (.tmp _ _ rfl)) ?_
  refine AList.nil ?_
  refine Next.go ?_
  refine AWP.seq ?_
  -- region 2
  refine AWP.region ?_
  refine AList.p rfl (pure_move (.tmp _ _ rfl)) ?_
  first | (refine AList.p rfl (pure_lenL Tryz.underlying36 (.tmp _ _ rfl)) ?_) | (refine AList.p rfl (pure_lenS Tryz.underlying36 (.tmp _ _ rfl)) ?_) | (refine AList.p rfl (pure_lenM Tryz.underlying36 (.tmp _ _ rfl)) ?_)
  refine AList.p rfl (pure_eql (.tmp _ _ rfl) ev_int) ?_
  refine AList.nil ?_
  refine Next.go ?_
  -- c0
  refine AWP.cond (.tmp _ _ rfl) (fun hc16 => ?_) (fun hc16 => ?_)
  · try simp only [decide_eq_true_eq] at hc16
    have h1 : l[i].cells.length = 1 := by have h9 : (l[i].cells.length : Int) = 1 := hc16; omega
    have h2 := scalar_one h1 (List.getElem?_eq_getElem (by omega))
    refine AWP.seq ?_
    -- region 3
    refine AWP.region ?_
    refine AList.p rfl (pure_move (.tmp _ _ rfl)) ?_
    first | (refine AList.p rfl (pure_indexL Tryz.underlying36 Tryz.sizeOf24 (.tmp _ _ rfl) ev_int (by omega) (by omega)) ?_) | (refine AList.p rfl (pure_indexM Tryz.underlying36 Tryz.sizeOf24 (.tmp _ _ rfl) ev_int (by omega) (by omega)) ?_)
    first | (refine AList.p rfl (pure_loadN Tryz.isAgg24 Tryz.sizeOf24 (.tmp _ _ rfl) (Nat.le_of_ble_eq_true rfl)) ?_) | (refine AList.s rfl (step_loadN Tryz.isAgg24 Tryz.sizeOf24 (.tmp _ _ rfl) (by first | exact hb | assumption | exact (by assumption : Heap.le _ _).objs _ _ (by assumption) | exact Heap.objs_set_same _ _ _ | exact (Heap.objs_set_ne _ _ (by assumption)).trans (Heap.objs_set_same _ _ _) | exact (Heap.objs_set_ne _ _ (by assumption)).trans ((Heap.objs_set_ne _ _ (by assumption)).trans (Heap.objs_set_same _ _ _)) | exact (Heap.objs_set_ne _ _ (by assumption)).trans (by assumption)) (Nat.le_of_ble_eq_true rfl)) ?_; rintro _ _ ⟨rfl, hH⟩; obtain rfl := hH.symm)
    refine AList.s0 (step_store Tryz.sizeOf24 (.tmp _ _ rfl) (.tmp _ _ rfl) rfl rfl (.inr ⟨_, rfl⟩) (by first | exact hb | assumption | exact (by assumption : Heap.le _ _).objs _ _ (by assumption) | exact Heap.objs_set_same _ _ _ | exact (Heap.objs_set_ne _ _ (by assumption)).trans (Heap.objs_set_same _ _ _) | exact (Heap.objs_set_ne _ _ (by assumption)).trans ((Heap.objs_set_ne _ _ (by assumption)).trans (Heap.objs_set_same _ _ _)) | exact (Heap.objs_set_ne _ _ (by assumption)).trans (by assumption)) (Nat.le_of_ble_eq_true rfl)) ?_
    rintro _ _ ⟨rfl, hH⟩
    obtain rfl := hH.symm
    try first | rw [Heap.set_set] | rw [Heap.set_under (by assumption)]
    refine AList.nil ?_
    refine Next.go ?_
    refine AWP.frz (t := 4) rfl (by first | exact hb4 | exact Heap.fresh_set hb4 _) ?_
    refine AWP.ret ?_
    refine Next.rt ?_
    -- ret 0
    refine Ret.go (.cons (.cellI _ _ _ _ rfl Tryz.isAgg24 Tryz.sizeOf24 rfl) .nil) _ (Heap.le.refl _) ?_
    refine ⟨?_, rfl⟩
    rw [h2]; rfl
  · try simp only [decide_eq_false_iff_not] at hc16
    have h2 := scalar_no (a := l[i]) (fun e => hc16 (by show (l[i].cells.length : Int) = 1; omega))
    refine AWP.skip ?_
    refine Next.go ?_
    refine AWP.seq ?_
    -- region 4
    refine AWP.region ?_
    refine AList.s rfl (step_call0 Tryz.call24 (.cons ev_int .nil) (vFail_calls _ _)) ?_
    rintro _ _ ⟨rfl, hH⟩
    obtain rfl := hH.symm
    refine AList.s0 (step_store Tryz.sizeOf24 (.tmp _ _ rfl) (.tmp _ _ rfl) rfl rfl (.inr ⟨_, rfl⟩) (by first | exact hb | assumption | exact (by assumption : Heap.le _ _).objs _ _ (by assumption) | exact Heap.objs_set_same _ _ _ | exact (Heap.objs_set_ne _ _ (by assumption)).trans (Heap.objs_set_same _ _ _) | exact (Heap.objs_set_ne _ _ (by assumption)).trans ((Heap.objs_set_ne _ _ (by assumption)).trans (Heap.objs_set_same _ _ _)) | exact (Heap.objs_set_ne _ _ (by assumption)).trans (by assumption)) (Nat.le_of_ble_eq_true rfl)) ?_
    rintro _ _ ⟨rfl, hH⟩
    obtain rfl := hH.symm
    try first | rw [Heap.set_set] | rw [Heap.set_under (by assumption)]
    refine AList.nil ?_
    refine Next.go ?_
    refine AWP.frz (t := 4) rfl (by first | exact hb4 | exact Heap.fresh_set hb4 _) ?_
    refine AWP.ret ?_
    -- ret 1
    refine Ret.go (.cons (.cellI _ _ _ _ rfl Tryz.isAgg24 Tryz.sizeOf24 rfl) .nil) _ (Heap.le.refl _) ?_
    refine ⟨?_, rfl⟩
    rw [h2]; rfl

set_option maxRecDepth 100000 in
theorem asksISERROR_calls (v : Val) (H : Heap) : ACall Tryz.prog 92 [.str [73, 83, 69, 82, 82, 79, 82], v.av] H (fun y H' => y = .tuple [.bool (decide (v.kind = 4)), .bool true] ∧ H' = H) := by
  refine ACall.of_body Tryz.func92 rfl Tryz.ntmps92 Tryz.results92 rfl ?_
  refine AWP.seq ?_
  -- region 0
  refine AWP.region ?_
  refine AList.s rfl (step_boxI (.tmp _ _ rfl) (.inr ⟨_, rfl⟩)) ?_
  rintro _ _ ⟨rfl, hH⟩
  obtain rfl := hH.symm
  refine AList.p rfl (pure_assign ev_bool) ?_
  refine AList.p rfl (pure_assign ev_bool) ?_
  refine AList.nil ?_
  refine Next.go ?_
  refine AWP.seq ?_
  refine AWP.seq ?_
  -- region 1
  refine AWP.region ?_
  refine AList.p rfl (pure_move (.tmp _ _ rfl)) ?_
  refine AList.nil ?_
  refine Next.go ?_
  refine AWP.block ?_
  refine AWP.seq ?_
  -- region 2
  refine AWP.region ?_
  refine AList.p rfl (pure_eqlStr (.tmp _ _ rfl) (ev_str rfl)) ?_
  refine AList.p rfl (pure_assign (.tmp _ _ rfl)) ?_
  refine AList.nil ?_
  refine Next.go ?_
  -- c0
  refine AWP.cond_false (.tmp _ _ rfl) (by rfl) ?_
  refine AWP.seq ?_
  -- region 4
  refine AWP.region ?_
  refine AList.p rfl (pure_eqlStr (.tmp _ _ rfl) (ev_str rfl)) ?_
  refine AList.p rfl (pure_assign (.tmp _ _ rfl)) ?_
  refine AList.nil ?_
  refine Next.go ?_
  -- c1
  refine AWP.cond_false (.tmp _ _ rfl) (by rfl) ?_
  refine AWP.seq ?_
  -- region 6
  refine AWP.region ?_
  refine AList.p rfl (pure_eqlStr (.tmp _ _ rfl) (ev_str rfl)) ?_
  refine AList.p rfl (pure_assign (.tmp _ _ rfl)) ?_
  refine AList.nil ?_
  refine Next.go ?_
  -- c2
  refine AWP.cond_false (.tmp _ _ rfl) (by rfl) ?_
  refine AWP.seq ?_
  -- region 8
  refine AWP.region ?_
  refine AList.p rfl (pure_eqlStr (.tmp _ _ rfl) (ev_str rfl)) ?_
  refine AList.p rfl (pure_assign (.tmp _ _ rfl)) ?_
  refine AList.nil ?_
  refine Next.go ?_
  -- c3
  refine AWP.cond_false (.tmp _ _ rfl) (by rfl) ?_
  refine AWP.seq ?_
  -- region 10
  refine AWP.region ?_
  refine AList.p rfl (pure_eqlStr (.tmp _ _ rfl) (ev_str rfl)) ?_
  refine AList.p rfl (pure_assign (.tmp _ _ rfl)) ?_
  refine AList.nil ?_
  refine Next.go ?_
  -- c4
  refine AWP.cond_true (.tmp _ _ rfl) (by rfl) ?_
  refine AWP.seq ?_
  -- region 11
  refine AWP.region ?_
  first | (refine AList.p rfl (pure_fieldI Tryz.underlying24 rfl Tryz.sizeOf3 (.tmp _ _ rfl)) ?_) | (refine AList.p rfl (pure_field Tryz.underlying24 rfl Tryz.sizeOf3 (.tmp _ _ rfl)) ?_)
  first | (refine AList.p rfl (pure_load1 Tryz.isAgg3 (.tmp _ _ rfl)) ?_) | (refine AList.s rfl (step_load1 Tryz.isAgg3 (.tmp _ _ rfl) (by first | assumption | exact (by assumption : Heap.le _ _).objs _ _ (by assumption) | exact Heap.objs_set_same _ _ _ | exact (Heap.objs_set_ne _ _ (by assumption)).trans (Heap.objs_set_same _ _ _) | exact (Heap.objs_set_ne _ _ (by assumption)).trans ((Heap.objs_set_ne _ _ (by assumption)).trans (Heap.objs_set_same _ _ _)) | exact (Heap.objs_set_ne _ _ (by assumption)).trans (by assumption)) rfl) ?_; rintro _ _ ⟨rfl, hH⟩; obtain rfl := hH.symm)
  refine AList.p rfl (pure_eql (.tmp _ _ rfl) ev_int) ?_
  refine AList.p rfl (pure_assign (.tmp _ _ rfl)) ?_
  refine AList.p rfl (pure_assign ev_bool) ?_
  refine AList.nil ?_
  refine Next.go ?_
  refine AWP.ret ?_
  refine Block.rt ?_
  refine Next.rt ?_
  -- ret 0
  refine Ret.go (.cons (.tmp _ _ rfl) (.cons (.tmp _ _ rfl) .nil)) _ (Heap.le.refl _) ?_
  exact ⟨rfl, rfl⟩

theorem zr29 : ∀ g, RelCells g [.str [], .str [], .str [], .str [], .str [], .str [], .str [], .bool false, .bool false, .slice 1 [] .full] (Value.cells (Go.Value.agg #[Go.Value.string { data := #[] }, Go.Value.string { data := #[] }, Go.Value.string { data := #[] }, Go.Value.string { data := #[] }, Go.Value.string { data := #[] }, Go.Value.string { data := #[] }, Go.Value.string { data := #[] }, Go.Value.bool false, Go.Value.bool false, Go.Value.slice none 0 0])) := fun _ => RelL.cells (.cons ((.str [] (Nat.zero_le _))) (.cons ((.str [] (Nat.zero_le _))) (.cons ((.str [] (Nat.zero_le _))) (.cons ((.str [] (Nat.zero_le _))) (.cons ((.str [] (Nat.zero_le _))) (.cons ((.str [] (Nat.zero_le _))) (.cons ((.str [] (Nat.zero_le _))) (.cons (.bool _) (.cons (.bool _) (.cons (.nilSlice _ _) .nil))))))))))
theorem pl29 (fs : Array Field) (hfs : Tryz.prog.underlying 29 = some (.struct fs)) : ∀ (i : Nat) f p, fs[i]? = some f → [(0, 1), (1, 1), (2, 1), (3, 1), (4, 1), (5, 1), (6, 1), (7, 1), (8, 1), (9, 1)][i]? = some p → ∀ w, (sizeOf f.type).run Tryz.prog w = .ok p.2 w := by
  have e := (Option.some.inj (hfs.symm.trans Tryz.underlying29))
  cases e
  intro i f p hf hp w
  match i with
  | 0 => cases hf; cases hp; exact Tryz.sizeOf9 w
  | 1 => cases hf; cases hp; exact Tryz.sizeOf9 w
  | 2 => cases hf; cases hp; exact Tryz.sizeOf9 w
  | 3 => cases hf; cases hp; exact Tryz.sizeOf9 w
  | 4 => cases hf; cases hp; exact Tryz.sizeOf9 w
  | 5 => cases hf; cases hp; exact Tryz.sizeOf9 w
  | 6 => cases hf; cases hp; exact Tryz.sizeOf9 w
  | 7 => cases hf; cases hp; exact Tryz.sizeOf4 w
  | 8 => cases hf; cases hp; exact Tryz.sizeOf4 w
  | 9 => cases hf; cases hp; exact Tryz.sizeOf27 w
  | i + 10 => simp at hp

theorem inv_cell {W : World} (h : Inv W) {n : Nat} {d : DataW Unit} {xs : List Value} (hn : (n, d) ∈ laidT) (hx : flatV 4 d = some xs) {i : Nat} {v : Value} (hi : xs[i]? = some v) : W.cell? ⟨n, i, none⟩ = some v := by
  obtain ⟨T, fz, hh⟩ := h.rows n d hn xs hx
  unfold World.cell?
  rw [hh]
  simpa using hi
def strV (l : List UInt8) : Value := .string ⟨l.toArray⟩
def namesL : List (List UInt8) := [[99, 104], [100, 101], [101, 110], [102, 114], [104, 105], [115, 118]]
def signsL : List (List UInt8) := [[46], [226, 128, 153], [59], [45], [67, 72, 70], [44], [46], [59], [45], [226, 130, 172], [46], [44], [44], [45], [36], [44], [226, 128, 175], [59], [45], [226, 130, 172], [46], [44], [44], [45], [226, 130, 185], [44], [194, 160], [59], [226, 136, 146], [107, 114]]
set_option maxRecDepth 100000 in
theorem flat_names : flatV 4 Rows.laid_tabard_locale_names = some (namesL.map strV) := by kernel_rfl
set_option maxRecDepth 100000 in
theorem flat_signs : flatV 4 Rows.laid_tabard_locale_signs = some (signsL.map strV) := by kernel_rfl
def nameAt (i : Nat) : List UInt8 := namesL.getD i []
def signAt (i : Nat) : List UInt8 := signsL.getD i []
theorem map_str {l : List (List UInt8)} {i : Nat} (h : i < l.length) : (l.map strV)[i]? = some (strV (l.getD i [])) := by
  rw [List.getElem?_map, List.getD_eq_getElem?_getD, List.getElem?_eq_getElem h]; rfl
theorem short_names : ∀ i, (nameAt i).length ≤ maxLen := fun i => by
  have : ∀ l ∈ namesL, l.length ≤ 10 := by decide
  unfold nameAt
  rw [List.getD_eq_getElem?_getD, maxLen_eq]
  cases h : namesL[i]? with
  | none => simp
  | some l => have := this l (List.mem_of_getElem? h); simp only [Option.getD_some]; omega
theorem short_signs : ∀ i, (signAt i).length ≤ maxLen := fun i => by
  have : ∀ l ∈ signsL, l.length ≤ 10 := by decide
  unfold signAt
  rw [List.getD_eq_getElem?_getD, maxLen_eq]
  cases h : signsL[i]? with
  | none => simp
  | some l => have := this l (List.mem_of_getElem? h); simp only [Option.getD_some]; omega
theorem inv_name {i : Nat} (hi : i < 6) : ∀ W, Inv W → ∃ v, W.cell? ⟨0, 0 + ((i : Nat) : Int).toNat * 1, none⟩ = some v ∧ ∀ g, RelV g (.str (nameAt i)) v := by
  intro W h
  rw [show 0 + ((i : Nat) : Int).toNat * 1 = i by omega]
  exact ⟨_, inv_cell h (by simp [laidT]) flat_names (map_str (by simpa [namesL] using hi)), fun g => .str _ (short_names i)⟩
theorem inv_sign {i : Nat} (hi : i < 6) (j : Nat) (hj : j < 5) (o : Nat) (ho : o = i * 5 + j) : ∀ W, Inv W → ∃ v, W.cell? ⟨1, o, none⟩ = some v ∧ ∀ g, RelV g (.str (signAt (i * 5 + j))) v := by
  intro W h
  subst ho
  exact ⟨_, inv_cell h (by simp [laidT]) flat_signs (map_str (by simp [signsL]; omega)), fun g => .str _ (short_signs _)⟩
structure FLoc where
  name : List UInt8
  dec : List UInt8
  grp : List UInt8
  lst : List UInt8
  minus : List UInt8
  pct : List UInt8
  cur : List UInt8
  first : Bool
  space : Bool
  sizes : List Int
def FLoc.cs (l : FLoc) : List AV := [.str l.name, .str l.dec, .str l.grp, .str l.lst, .str l.minus, .str l.pct, .str l.cur, .bool l.first, .bool l.space, .slice 1 (l.sizes.map (.int .i64)) .full]
def FLoc.none : FLoc := ⟨[], [], [], [], [], [], [], false, false, []⟩
def locOf (i : Nat) (s : List UInt8) : FLoc :=
  ⟨s, signAt (i * 5), signAt (i * 5 + 1), signAt (i * 5 + 2), signAt (i * 5 + 3), [37], signAt (i * 5 + 4), decide (s = [99, 104]) || (decide (s = [104, 105]) || decide (s = [101, 110])), !(decide (s = [104, 105]) || decide (s = [101, 110])), if s = [104, 105] then [3, 2] else [3]⟩
def findL (s : List UInt8) : Option Nat := (List.range 6).find? fun i => decide (nameAt i = s)
theorem findL_some {s : List UInt8} {i : Nat} (hi : i < 6) (h : nameAt i = s) (hl : ∀ j, j < i → nameAt j ≠ s) : findL s = some i := by
  unfold findL
  rw [List.find?_eq_some_iff_append]
  refine ⟨by simp [h], List.range i, (List.range' (i + 1) (5 - i)), ?_, fun j hj => by simpa using hl j (by simpa using hj)⟩
  have : i = 0 ∨ i = 1 ∨ i = 2 ∨ i = 3 ∨ i = 4 ∨ i = 5 := by omega
  rcases this with rfl | rfl | rfl | rfl | rfl | rfl <;> rfl
theorem findL_none {s : List UInt8} (hl : ∀ j, j < 6 → nameAt j ≠ s) : findL s = none := by
  unfold findL
  rw [List.find?_eq_none]
  intro j hj
  simpa using hl j (by simpa using hj)
def findLoc (s : List UInt8) : FLoc × Int := match findL s with | some i => (locOf i s, 0) | none => (FLoc.none, 8)

def find_J (s : List UInt8) (b2 : Nat) (H : Heap) : Nat → Env → Heap → Prop := fun k env H1 => ∃ i : Nat, i ≤ 6 ∧ (∀ j, j < i → nameAt j ≠ s) ∧ env = [(0, .str s), (2, .ptr (some ⟨b2, 0, none⟩)), (6, .int .i64 i)] ∧ H1 = H.set b2 (.box 29 [.str [], .str [], .str [], .str [], .str [], .str [], .str [], .bool false, .bool false, .slice 1 [] .full]) ∧ k = 6 - i

set_option maxRecDepth 100000 in
theorem Find_calls (s : List UInt8) (H : Heap) : ACall Tryz.prog 7 [.str s] H (fun y H' => y = .tuple [.agg (findLoc s).1.cs, .int .i64 (findLoc s).2] ∧ H' = H) := by
  refine ACall.of_body Tryz.func7 rfl Tryz.ntmps7 Tryz.results7 rfl ?_
  refine AWP.seq ?_
  -- region 0
  refine AWP.region ?_
  refine AList.s rfl (step_alloc Tryz.zeroValue29 (zr29)) ?_
  rintro _ _ ⟨b2, hb2, rfl, hH⟩
  obtain rfl := hH.symm
  refine AList.p rfl (pure_assign ev_int) ?_
  refine AList.nil ?_
  refine Next.go ?_
  refine AWP.seq ?_
  refine AWP.seq ?_
  -- region 1
  refine AWP.region ?_
  refine AList.p rfl (pure_move ev_int) ?_
  refine AList.nil ?_
  refine Next.go ?_
  refine AWP.block ?_
  -- L0
  refine AWP.loopW (find_J s b2 H) (6) ⟨0, Nat.zero_le _, fun j h => absurd h (Nat.not_lt_zero _), rfl, rfl, rfl⟩ (sub_c rfl (sub_c rfl (sub_c rfl sub_n))) (Heap.le.refl _) ?_
  rintro _ _ _ ⟨i, hi, hl, rfl, rfl, rfl⟩
  refine AWP.seq ?_
  -- region 2
  refine AWP.region ?_
  refine AList.p rfl (pure_lss (.tmp _ _ rfl) ev_int) ?_
  refine AList.nil ?_
  refine Next.go ?_
  refine AWP.seq ?_
  -- c0
  refine AWP.cond (.tmp _ _ rfl) (fun hc7 => ?_) (fun hc7 => ?_)
  · try simp only [decide_eq_true_eq] at hc7
    have hi6 : i < 6 := by omega
    refine AWP.skip ?_
    refine Next.go ?_
    refine AWP.seq ?_
    refine AWP.block ?_
    refine AWP.seq ?_
    -- region 3
    refine AWP.region ?_
    refine AList.p rfl (pure_move (.tmp _ _ rfl)) ?_
    refine AList.p rfl (pure_assign (.tmp _ _ rfl)) ?_
    refine AList.nil ?_
    refine Next.go ?_
    refine AWP.seq ?_
    refine AWP.seq ?_
    -- region 4
    refine AWP.region ?_
    refine AList.p rfl (pure_move (.tmp _ _ rfl)) ?_
    first | (refine AList.p rfl (pure_indexA Tryz.underlying61 Tryz.sizeOf9 (.global _) (.tmp _ _ rfl) (by omega) (by omega)) ?_) | (refine AList.p rfl (pure_indexB Tryz.underlying61 Tryz.sizeOf9 (.global _) (.tmp _ _ rfl) (by omega) (by omega)) ?_)
    refine AList.s rfl (step_loadK Tryz.isAgg9 (.tmp _ _ rfl) (inv_name hi6)) ?_
    rintro _ _ ⟨rfl, hH⟩
    obtain rfl := hH.symm
    refine AList.p rfl (pure_move (.tmp _ _ rfl)) ?_
    refine AList.p rfl (pure_neqStr (.tmp _ _ rfl) (.tmp _ _ rfl)) ?_
    refine AList.nil ?_
    refine Next.go ?_
    -- c1
    refine AWP.cond (.tmp _ _ rfl) (fun hc13 => ?_) (fun hc13 => ?_)
    · try simp only [decide_eq_false_iff_not, Bool.not_eq_true'] at hc13
      refine AWP.exit ?_
      refine Next.ex ?_
      refine Block.hit ?_
      refine Next.go ?_
      -- region 14
      refine AWP.region ?_
      refine AList.p rfl (pure_add (.tmp _ _ rfl) ev_int (by omega)) ?_
      refine AList.p rfl (pure_move (.tmp _ _ rfl)) ?_
      refine AList.nil ?_
      refine Next.go ?_
      refine Round.mk (J := find_J s b2 H) ⟨i + 1, by omega, fun j hj => by rcases Nat.lt_or_ge j i with h | h; exact hl j h; rw [show j = i by omega]; exact hc13, rfl, rfl, rfl⟩ (sub_c rfl (sub_c rfl (sub_c rfl sub_n))) (Heap.le.refl _) (by omega)
    · try simp only [decide_eq_true_eq, Bool.not_eq_false'] at hc13
      refine AWP.skip ?_
      refine Next.go ?_
      refine AWP.seq ?_
      -- region 5
      refine AWP.draw [(0, true), (1, true), (2, true), (3, true), (4, true), (5, true), (6, true), (7, true), (8, true), (9, true), (10, true), (11, true), (12, true), (13, true), (14, true), (15, true), (16, true), (17, true), (18, true), (19, true), (20, true), (21, true), (22, true), (23, false), (24, false)] rfl (by decide +kernel) ?_
      refine APlan.p rfl rfl (pure_move (.tmp _ _ rfl)) ?_
      refine APlan.p rfl rfl (pure_move (.tmp _ _ rfl)) ?_
      first | (refine APlan.p rfl rfl (pure_indexA Tryz.underlying63 Tryz.sizeOf62 (.global _) (.tmp _ _ rfl) (by omega) (by omega)) ?_) | (refine APlan.p rfl rfl (pure_indexB Tryz.underlying63 Tryz.sizeOf62 (.global _) (.tmp _ _ rfl) (by omega) (by omega)) ?_)
      first | (refine APlan.p rfl rfl (pure_indexA Tryz.underlying62 Tryz.sizeOf9 (.tmp _ _ rfl) ev_int (by omega) (by omega)) ?_) | (refine APlan.p rfl rfl (pure_indexB Tryz.underlying62 Tryz.sizeOf9 (.tmp _ _ rfl) ev_int (by omega) (by omega)) ?_)
      refine APlan.f rfl rfl (fun _ => step_loadK Tryz.isAgg9 (.tmp _ _ rfl) (inv_sign hi6 0 (by decide) _ (by omega))) ?_
      refine APlan.p rfl rfl (pure_move (.tmp _ _ rfl)) ?_
      first | (refine APlan.p rfl rfl (pure_indexA Tryz.underlying63 Tryz.sizeOf62 (.global _) (.tmp _ _ rfl) (by omega) (by omega)) ?_) | (refine APlan.p rfl rfl (pure_indexB Tryz.underlying63 Tryz.sizeOf62 (.global _) (.tmp _ _ rfl) (by omega) (by omega)) ?_)
      first | (refine APlan.p rfl rfl (pure_indexA Tryz.underlying62 Tryz.sizeOf9 (.tmp _ _ rfl) ev_int (by omega) (by omega)) ?_) | (refine APlan.p rfl rfl (pure_indexB Tryz.underlying62 Tryz.sizeOf9 (.tmp _ _ rfl) ev_int (by omega) (by omega)) ?_)
      refine APlan.f rfl rfl (fun _ => step_loadK Tryz.isAgg9 (.tmp _ _ rfl) (inv_sign hi6 1 (by decide) _ (by omega))) ?_
      refine APlan.p rfl rfl (pure_move (.tmp _ _ rfl)) ?_
      first | (refine APlan.p rfl rfl (pure_indexA Tryz.underlying63 Tryz.sizeOf62 (.global _) (.tmp _ _ rfl) (by omega) (by omega)) ?_) | (refine APlan.p rfl rfl (pure_indexB Tryz.underlying63 Tryz.sizeOf62 (.global _) (.tmp _ _ rfl) (by omega) (by omega)) ?_)
      first | (refine APlan.p rfl rfl (pure_indexA Tryz.underlying62 Tryz.sizeOf9 (.tmp _ _ rfl) ev_int (by omega) (by omega)) ?_) | (refine APlan.p rfl rfl (pure_indexB Tryz.underlying62 Tryz.sizeOf9 (.tmp _ _ rfl) ev_int (by omega) (by omega)) ?_)
      refine APlan.f rfl rfl (fun _ => step_loadK Tryz.isAgg9 (.tmp _ _ rfl) (inv_sign hi6 2 (by decide) _ (by omega))) ?_
      refine APlan.p rfl rfl (pure_move (.tmp _ _ rfl)) ?_
      first | (refine APlan.p rfl rfl (pure_indexA Tryz.underlying63 Tryz.sizeOf62 (.global _) (.tmp _ _ rfl) (by omega) (by omega)) ?_) | (refine APlan.p rfl rfl (pure_indexB Tryz.underlying63 Tryz.sizeOf62 (.global _) (.tmp _ _ rfl) (by omega) (by omega)) ?_)
      first | (refine APlan.p rfl rfl (pure_indexA Tryz.underlying62 Tryz.sizeOf9 (.tmp _ _ rfl) ev_int (by omega) (by omega)) ?_) | (refine APlan.p rfl rfl (pure_indexB Tryz.underlying62 Tryz.sizeOf9 (.tmp _ _ rfl) ev_int (by omega) (by omega)) ?_)
      refine APlan.f rfl rfl (fun _ => step_loadK Tryz.isAgg9 (.tmp _ _ rfl) (inv_sign hi6 3 (by decide) _ (by omega))) ?_
      refine APlan.p rfl rfl (pure_move (.tmp _ _ rfl)) ?_
      first | (refine APlan.p rfl rfl (pure_indexA Tryz.underlying63 Tryz.sizeOf62 (.global _) (.tmp _ _ rfl) (by omega) (by omega)) ?_) | (refine APlan.p rfl rfl (pure_indexB Tryz.underlying63 Tryz.sizeOf62 (.global _) (.tmp _ _ rfl) (by omega) (by omega)) ?_)
      first | (refine APlan.p rfl rfl (pure_indexA Tryz.underlying62 Tryz.sizeOf9 (.tmp _ _ rfl) ev_int (by omega) (by omega)) ?_) | (refine APlan.p rfl rfl (pure_indexB Tryz.underlying62 Tryz.sizeOf9 (.tmp _ _ rfl) ev_int (by omega) (by omega)) ?_)
      refine APlan.f rfl rfl (fun _ => step_loadK Tryz.isAgg9 (.tmp _ _ rfl) (inv_sign hi6 4 (by decide) _ (by omega))) ?_
      refine APlan.f rfl rfl (fun _ => step_bs1 Tryz.underlying27 Tryz.sizeOf3 Tryz.zeroValue3 rfl ev_int (.inl rfl) ⟨rfl, rfl⟩) ?_
      refine APlan.p rfl rfl (pure_buildS [(0, 1), (1, 1), (2, 1), (3, 1), (4, 1), (5, 1), (6, 1), (7, 1), (8, 1), (9, 1)] Tryz.underlying29 Tryz.zeroValue29 (zr29) rfl (pl29 _ Tryz.underlying29) (.cons (.tmp _ _ rfl) (.inl rfl) (.cons (.tmp _ _ rfl) (.inl rfl) (.cons (.tmp _ _ rfl) (.inl rfl) (.cons (.tmp _ _ rfl) (.inl rfl) (.cons (.tmp _ _ rfl) (.inl rfl) (.cons (ev_str rfl) (.inl rfl) (.cons (.tmp _ _ rfl) (.inl rfl) (.cons ev_bool (.inl rfl) (.cons ev_bool (.inl rfl) (.cons (.tmp _ _ rfl) (.inl rfl) .nil)))))))))) rfl rfl) ?_
      refine APlan.s rfl rfl (step_alloc Tryz.zeroValue29 (zr29)) ?_
      rintro _ _ ⟨b5, hb5, rfl, hH⟩
      obtain rfl := hH.symm
      have hn2_5 := Heap.ne_of (by first | assumption | exact (by assumption : Heap.le _ _).objs _ _ (by assumption) | exact Heap.objs_set_same _ _ _ | exact (Heap.objs_set_ne _ _ (by assumption)).trans (Heap.objs_set_same _ _ _) | exact (Heap.objs_set_ne _ _ (by assumption)).trans ((Heap.objs_set_ne _ _ (by assumption)).trans (Heap.objs_set_same _ _ _)) | exact (Heap.objs_set_ne _ _ (by assumption)).trans (by assumption)) hb5
      refine APlan.s0 rfl (step_store Tryz.sizeOf29 (.tmp _ _ rfl) (.tmp _ _ rfl) rfl rfl (.inr ⟨_, rfl⟩) (by first | assumption | exact (by assumption : Heap.le _ _).objs _ _ (by assumption) | exact Heap.objs_set_same _ _ _ | exact (Heap.objs_set_ne _ _ (by assumption)).trans (Heap.objs_set_same _ _ _) | exact (Heap.objs_set_ne _ _ (by assumption)).trans ((Heap.objs_set_ne _ _ (by assumption)).trans (Heap.objs_set_same _ _ _)) | exact (Heap.objs_set_ne _ _ (by assumption)).trans (by assumption)) (Nat.le_of_ble_eq_true rfl)) ?_
      rintro _ _ ⟨rfl, hH⟩
      obtain rfl := hH.symm
      try first | rw [Heap.set_set] | rw [Heap.set_under (by assumption)]
      refine APlan.nil ?_
      refine Next.go ?_
      refine AWP.seq ?_
      refine AWP.seq ?_
      -- region 6
      refine AWP.region ?_
      refine AList.p rfl (pure_move (.tmp _ _ rfl)) ?_
      refine AList.nil ?_
      refine Next.go ?_
      refine AWP.block ?_
      refine AWP.seq ?_
      refine AWP.block ?_
      refine AWP.seq ?_
      refine AWP.block ?_
      refine AWP.seq ?_
      refine AWP.block ?_
      refine AWP.seq ?_
      refine AWP.seq ?_
      refine AWP.seq ?_
      -- region 7
      refine AWP.region ?_
      refine AList.p rfl (pure_eqlStr (.tmp _ _ rfl) (ev_str rfl)) ?_
      refine AList.p rfl (pure_assign (.tmp _ _ rfl)) ?_
      refine AList.nil ?_
      refine Next.go ?_
      -- c2
      refine AWP.cond (.tmp _ _ rfl) (fun hc38 => ?_) (fun hc38 => ?_)
      · try simp only [decide_eq_true_eq] at hc38
        refine AWP.exit ?_
        refine Next.ex ?_
        refine Next.ex ?_
        refine Block.hit ?_
        refine Next.go ?_
        refine AWP.seq ?_
        -- region 10
        refine AWP.region ?_
        first | (refine AList.p rfl (pure_fieldI Tryz.underlying29 rfl Tryz.sizeOf4 (.tmp _ _ rfl)) ?_) | (refine AList.p rfl (pure_field Tryz.underlying29 rfl Tryz.sizeOf4 (.tmp _ _ rfl)) ?_)
        refine AList.s0 (step_store Tryz.sizeOf4 (.tmp _ _ rfl) ev_bool rfl rfl (.inl rfl) (by first | assumption | exact (by assumption : Heap.le _ _).objs _ _ (by assumption) | exact Heap.objs_set_same _ _ _ | exact (Heap.objs_set_ne _ _ (by assumption)).trans (Heap.objs_set_same _ _ _) | exact (Heap.objs_set_ne _ _ (by assumption)).trans ((Heap.objs_set_ne _ _ (by assumption)).trans (Heap.objs_set_same _ _ _)) | exact (Heap.objs_set_ne _ _ (by assumption)).trans (by assumption)) (Nat.le_of_ble_eq_true rfl)) ?_
        rintro _ _ ⟨rfl, hH⟩
        obtain rfl := hH.symm
        try first | rw [Heap.set_set] | rw [Heap.set_under (by assumption)]
        refine AList.nil ?_
        refine Next.go ?_
        refine AWP.exit ?_
        refine Block.miss rfl ?_
        refine Next.ex ?_
        refine Block.miss rfl ?_
        refine Next.ex ?_
        refine Block.hit ?_
        refine Next.go ?_
        refine AWP.seq ?_
        -- region 13
        refine AWP.region ?_
        first | (refine AList.p rfl (pure_loadN Tryz.isAgg29 Tryz.sizeOf29 (.tmp _ _ rfl) (Nat.le_of_ble_eq_true rfl)) ?_) | (refine AList.s rfl (step_loadN Tryz.isAgg29 Tryz.sizeOf29 (.tmp _ _ rfl) (by first | assumption | exact (by assumption : Heap.le _ _).objs _ _ (by assumption) | exact Heap.objs_set_same _ _ _ | exact (Heap.objs_set_ne _ _ (by assumption)).trans (Heap.objs_set_same _ _ _) | exact (Heap.objs_set_ne _ _ (by assumption)).trans ((Heap.objs_set_ne _ _ (by assumption)).trans (Heap.objs_set_same _ _ _)) | exact (Heap.objs_set_ne _ _ (by assumption)).trans (by assumption)) (Nat.le_of_ble_eq_true rfl)) ?_; rintro _ _ ⟨rfl, hH⟩; obtain rfl := hH.symm)
        refine AList.s0 (step_store Tryz.sizeOf29 (.tmp _ _ rfl) (.tmp _ _ rfl) rfl rfl (.inr ⟨_, rfl⟩) (by first | assumption | exact (by assumption : Heap.le _ _).objs _ _ (by assumption) | exact Heap.objs_set_same _ _ _ | exact (Heap.objs_set_ne _ _ (by assumption)).trans (Heap.objs_set_same _ _ _) | exact (Heap.objs_set_ne _ _ (by assumption)).trans ((Heap.objs_set_ne _ _ (by assumption)).trans (Heap.objs_set_same _ _ _)) | exact (Heap.objs_set_ne _ _ (by assumption)).trans (by assumption)) (Nat.le_of_ble_eq_true rfl)) ?_
        rintro _ _ ⟨rfl, hH⟩
        obtain rfl := hH.symm
        try first | rw [Heap.set_set] | rw [Heap.set_under (by assumption)]
        refine AList.p rfl (pure_assign ev_int) ?_
        refine AList.nil ?_
        refine Next.go ?_
        refine AWP.dropb (by first | exact hb5 | exact Heap.fresh_set hb5 _) ?_
        refine AWP.frz (t := 2) rfl (by first | exact hb2 | exact Heap.fresh_set hb2 _) ?_
        refine AWP.ret ?_
        refine Block.rt ?_
        refine Next.rt ?_
        refine Next.rt ?_
        refine Block.rt ?_
        refine Next.rt ?_
        -- ret 0
        refine Ret.go (.cons (.cellI _ _ _ _ rfl Tryz.isAgg29 Tryz.sizeOf29 rfl) (.cons (.tmp _ _ rfl) .nil)) _ (Heap.le.refl _) ?_
        refine ⟨?_, rfl⟩
        have hf : findL s = some i := findL_some hi6 hc13 hl
        simp only [packed, findLoc, hf]
        simp_all [locOf, FLoc.cs]
        all_goals rfl
      · try simp only [decide_eq_false_iff_not] at hc38
        refine AWP.skip ?_
        refine Next.go ?_
        refine AWP.seq ?_
        refine AWP.seq ?_
        -- region 8
        refine AWP.region ?_
        refine AList.p rfl (pure_eqlStr (.tmp _ _ rfl) (ev_str rfl)) ?_
        refine AList.p rfl (pure_assign (.tmp _ _ rfl)) ?_
        refine AList.nil ?_
        refine Next.go ?_
        -- c3
        refine AWP.cond (.tmp _ _ rfl) (fun hc40 => ?_) (fun hc40 => ?_)
        · try simp only [decide_eq_true_eq] at hc40
          refine AWP.exit ?_
          refine Next.ex ?_
          refine Next.ex ?_
          refine Block.miss rfl ?_
          refine Next.ex ?_
          refine Block.hit ?_
          refine Next.go ?_
          -- region 11
          refine AWP.region ?_
          refine AList.s rfl (step_bs2 Tryz.underlying27 Tryz.sizeOf3 Tryz.zeroValue3 rfl ev_int (.inl rfl) ⟨rfl, rfl⟩ ev_int (.inl rfl) ⟨rfl, rfl⟩) ?_
          rintro _ _ ⟨rfl, hH⟩
          obtain rfl := hH.symm
          first | (refine AList.p rfl (pure_fieldI Tryz.underlying29 rfl Tryz.sizeOf27 (.tmp _ _ rfl)) ?_) | (refine AList.p rfl (pure_field Tryz.underlying29 rfl Tryz.sizeOf27 (.tmp _ _ rfl)) ?_)
          refine AList.s0 (step_store Tryz.sizeOf27 (.tmp _ _ rfl) (.tmp _ _ rfl) rfl rfl (.inl rfl) (by first | assumption | exact (by assumption : Heap.le _ _).objs _ _ (by assumption) | exact Heap.objs_set_same _ _ _ | exact (Heap.objs_set_ne _ _ (by assumption)).trans (Heap.objs_set_same _ _ _) | exact (Heap.objs_set_ne _ _ (by assumption)).trans ((Heap.objs_set_ne _ _ (by assumption)).trans (Heap.objs_set_same _ _ _)) | exact (Heap.objs_set_ne _ _ (by assumption)).trans (by assumption)) (Nat.le_of_ble_eq_true rfl)) ?_
          rintro _ _ ⟨rfl, hH⟩
          obtain rfl := hH.symm
          try first | rw [Heap.set_set] | rw [Heap.set_under (by assumption)]
          refine AList.nil ?_
          refine Block.go ?_
          refine Next.go ?_
          refine AWP.seq ?_
          -- region 12
          refine AWP.region ?_
          first | (refine AList.p rfl (pure_fieldI Tryz.underlying29 rfl Tryz.sizeOf4 (.tmp _ _ rfl)) ?_) | (refine AList.p rfl (pure_field Tryz.underlying29 rfl Tryz.sizeOf4 (.tmp _ _ rfl)) ?_)
          refine AList.s0 (step_store Tryz.sizeOf4 (.tmp _ _ rfl) ev_bool rfl rfl (.inl rfl) (by first | assumption | exact (by assumption : Heap.le _ _).objs _ _ (by assumption) | exact Heap.objs_set_same _ _ _ | exact (Heap.objs_set_ne _ _ (by assumption)).trans (Heap.objs_set_same _ _ _) | exact (Heap.objs_set_ne _ _ (by assumption)).trans ((Heap.objs_set_ne _ _ (by assumption)).trans (Heap.objs_set_same _ _ _)) | exact (Heap.objs_set_ne _ _ (by assumption)).trans (by assumption)) (Nat.le_of_ble_eq_true rfl)) ?_
          rintro _ _ ⟨rfl, hH⟩
          obtain rfl := hH.symm
          try first | rw [Heap.set_set] | rw [Heap.set_under (by assumption)]
          first | (refine AList.p rfl (pure_fieldI Tryz.underlying29 rfl Tryz.sizeOf4 (.tmp _ _ rfl)) ?_) | (refine AList.p rfl (pure_field Tryz.underlying29 rfl Tryz.sizeOf4 (.tmp _ _ rfl)) ?_)
          refine AList.s0 (step_store Tryz.sizeOf4 (.tmp _ _ rfl) ev_bool rfl rfl (.inl rfl) (by first | assumption | exact (by assumption : Heap.le _ _).objs _ _ (by assumption) | exact Heap.objs_set_same _ _ _ | exact (Heap.objs_set_ne _ _ (by assumption)).trans (Heap.objs_set_same _ _ _) | exact (Heap.objs_set_ne _ _ (by assumption)).trans ((Heap.objs_set_ne _ _ (by assumption)).trans (Heap.objs_set_same _ _ _)) | exact (Heap.objs_set_ne _ _ (by assumption)).trans (by assumption)) (Nat.le_of_ble_eq_true rfl)) ?_
          rintro _ _ ⟨rfl, hH⟩
          obtain rfl := hH.symm
          try first | rw [Heap.set_set] | rw [Heap.set_under (by assumption)]
          refine AList.nil ?_
          refine Next.go ?_
          refine AWP.exit ?_
          refine Block.hit ?_
          refine Next.go ?_
          refine AWP.seq ?_
          -- region 13
          refine AWP.region ?_
          first | (refine AList.p rfl (pure_loadN Tryz.isAgg29 Tryz.sizeOf29 (.tmp _ _ rfl) (Nat.le_of_ble_eq_true rfl)) ?_) | (refine AList.s rfl (step_loadN Tryz.isAgg29 Tryz.sizeOf29 (.tmp _ _ rfl) (by first | assumption | exact (by assumption : Heap.le _ _).objs _ _ (by assumption) | exact Heap.objs_set_same _ _ _ | exact (Heap.objs_set_ne _ _ (by assumption)).trans (Heap.objs_set_same _ _ _) | exact (Heap.objs_set_ne _ _ (by assumption)).trans ((Heap.objs_set_ne _ _ (by assumption)).trans (Heap.objs_set_same _ _ _)) | exact (Heap.objs_set_ne _ _ (by assumption)).trans (by assumption)) (Nat.le_of_ble_eq_true rfl)) ?_; rintro _ _ ⟨rfl, hH⟩; obtain rfl := hH.symm)
          refine AList.s0 (step_store Tryz.sizeOf29 (.tmp _ _ rfl) (.tmp _ _ rfl) rfl rfl (.inr ⟨_, rfl⟩) (by first | assumption | exact (by assumption : Heap.le _ _).objs _ _ (by assumption) | exact Heap.objs_set_same _ _ _ | exact (Heap.objs_set_ne _ _ (by assumption)).trans (Heap.objs_set_same _ _ _) | exact (Heap.objs_set_ne _ _ (by assumption)).trans ((Heap.objs_set_ne _ _ (by assumption)).trans (Heap.objs_set_same _ _ _)) | exact (Heap.objs_set_ne _ _ (by assumption)).trans (by assumption)) (Nat.le_of_ble_eq_true rfl)) ?_
          rintro _ _ ⟨rfl, hH⟩
          obtain rfl := hH.symm
          try first | rw [Heap.set_set] | rw [Heap.set_under (by assumption)]
          refine AList.p rfl (pure_assign ev_int) ?_
          refine AList.nil ?_
          refine Next.go ?_
          refine AWP.dropb (by first | exact hb5 | exact Heap.fresh_set hb5 _) ?_
          refine AWP.frz (t := 2) rfl (by first | exact hb2 | exact Heap.fresh_set hb2 _) ?_
          refine AWP.ret ?_
          refine Block.rt ?_
          refine Next.rt ?_
          refine Next.rt ?_
          refine Block.rt ?_
          refine Next.rt ?_
          -- ret 1
          refine Ret.go (.cons (.cellI _ _ _ _ rfl Tryz.isAgg29 Tryz.sizeOf29 rfl) (.cons (.tmp _ _ rfl) .nil)) _ (Heap.le.refl _) ?_
          refine ⟨?_, rfl⟩
          have hf : findL s = some i := findL_some hi6 hc13 hl
          simp only [packed, findLoc, hf]
          simp_all [locOf, FLoc.cs]
          all_goals rfl
        · try simp only [decide_eq_false_iff_not] at hc40
          refine AWP.skip ?_
          refine Next.go ?_
          refine AWP.seq ?_
          -- region 9
          refine AWP.region ?_
          refine AList.p rfl (pure_eqlStr (.tmp _ _ rfl) (ev_str rfl)) ?_
          refine AList.p rfl (pure_assign (.tmp _ _ rfl)) ?_
          refine AList.nil ?_
          refine Next.go ?_
          -- c4
          refine AWP.cond (.tmp _ _ rfl) (fun hc42 => ?_) (fun hc42 => ?_)
          · try simp only [decide_eq_true_eq] at hc42
            refine AWP.exit ?_
            refine Next.ex ?_
            refine Block.miss rfl ?_
            refine Next.ex ?_
            refine Block.miss rfl ?_
            refine Next.ex ?_
            refine Block.hit ?_
            refine Next.go ?_
            refine AWP.seq ?_
            -- region 12
            refine AWP.region ?_
            first | (refine AList.p rfl (pure_fieldI Tryz.underlying29 rfl Tryz.sizeOf4 (.tmp _ _ rfl)) ?_) | (refine AList.p rfl (pure_field Tryz.underlying29 rfl Tryz.sizeOf4 (.tmp _ _ rfl)) ?_)
            refine AList.s0 (step_store Tryz.sizeOf4 (.tmp _ _ rfl) ev_bool rfl rfl (.inl rfl) (by first | assumption | exact (by assumption : Heap.le _ _).objs _ _ (by assumption) | exact Heap.objs_set_same _ _ _ | exact (Heap.objs_set_ne _ _ (by assumption)).trans (Heap.objs_set_same _ _ _) | exact (Heap.objs_set_ne _ _ (by assumption)).trans ((Heap.objs_set_ne _ _ (by assumption)).trans (Heap.objs_set_same _ _ _)) | exact (Heap.objs_set_ne _ _ (by assumption)).trans (by assumption)) (Nat.le_of_ble_eq_true rfl)) ?_
            rintro _ _ ⟨rfl, hH⟩
            obtain rfl := hH.symm
            try first | rw [Heap.set_set] | rw [Heap.set_under (by assumption)]
            first | (refine AList.p rfl (pure_fieldI Tryz.underlying29 rfl Tryz.sizeOf4 (.tmp _ _ rfl)) ?_) | (refine AList.p rfl (pure_field Tryz.underlying29 rfl Tryz.sizeOf4 (.tmp _ _ rfl)) ?_)
            refine AList.s0 (step_store Tryz.sizeOf4 (.tmp _ _ rfl) ev_bool rfl rfl (.inl rfl) (by first | assumption | exact (by assumption : Heap.le _ _).objs _ _ (by assumption) | exact Heap.objs_set_same _ _ _ | exact (Heap.objs_set_ne _ _ (by assumption)).trans (Heap.objs_set_same _ _ _) | exact (Heap.objs_set_ne _ _ (by assumption)).trans ((Heap.objs_set_ne _ _ (by assumption)).trans (Heap.objs_set_same _ _ _)) | exact (Heap.objs_set_ne _ _ (by assumption)).trans (by assumption)) (Nat.le_of_ble_eq_true rfl)) ?_
            rintro _ _ ⟨rfl, hH⟩
            obtain rfl := hH.symm
            try first | rw [Heap.set_set] | rw [Heap.set_under (by assumption)]
            refine AList.nil ?_
            refine Next.go ?_
            refine AWP.exit ?_
            refine Block.hit ?_
            refine Next.go ?_
            refine AWP.seq ?_
            -- region 13
            refine AWP.region ?_
            first | (refine AList.p rfl (pure_loadN Tryz.isAgg29 Tryz.sizeOf29 (.tmp _ _ rfl) (Nat.le_of_ble_eq_true rfl)) ?_) | (refine AList.s rfl (step_loadN Tryz.isAgg29 Tryz.sizeOf29 (.tmp _ _ rfl) (by first | assumption | exact (by assumption : Heap.le _ _).objs _ _ (by assumption) | exact Heap.objs_set_same _ _ _ | exact (Heap.objs_set_ne _ _ (by assumption)).trans (Heap.objs_set_same _ _ _) | exact (Heap.objs_set_ne _ _ (by assumption)).trans ((Heap.objs_set_ne _ _ (by assumption)).trans (Heap.objs_set_same _ _ _)) | exact (Heap.objs_set_ne _ _ (by assumption)).trans (by assumption)) (Nat.le_of_ble_eq_true rfl)) ?_; rintro _ _ ⟨rfl, hH⟩; obtain rfl := hH.symm)
            refine AList.s0 (step_store Tryz.sizeOf29 (.tmp _ _ rfl) (.tmp _ _ rfl) rfl rfl (.inr ⟨_, rfl⟩) (by first | assumption | exact (by assumption : Heap.le _ _).objs _ _ (by assumption) | exact Heap.objs_set_same _ _ _ | exact (Heap.objs_set_ne _ _ (by assumption)).trans (Heap.objs_set_same _ _ _) | exact (Heap.objs_set_ne _ _ (by assumption)).trans ((Heap.objs_set_ne _ _ (by assumption)).trans (Heap.objs_set_same _ _ _)) | exact (Heap.objs_set_ne _ _ (by assumption)).trans (by assumption)) (Nat.le_of_ble_eq_true rfl)) ?_
            rintro _ _ ⟨rfl, hH⟩
            obtain rfl := hH.symm
            try first | rw [Heap.set_set] | rw [Heap.set_under (by assumption)]
            refine AList.p rfl (pure_assign ev_int) ?_
            refine AList.nil ?_
            refine Next.go ?_
            refine AWP.dropb (by first | exact hb5 | exact Heap.fresh_set hb5 _) ?_
            refine AWP.frz (t := 2) rfl (by first | exact hb2 | exact Heap.fresh_set hb2 _) ?_
            refine AWP.ret ?_
            refine Block.rt ?_
            refine Next.rt ?_
            refine Next.rt ?_
            refine Block.rt ?_
            refine Next.rt ?_
            -- ret 2
            refine Ret.go (.cons (.cellI _ _ _ _ rfl Tryz.isAgg29 Tryz.sizeOf29 rfl) (.cons (.tmp _ _ rfl) .nil)) _ (Heap.le.refl _) ?_
            refine ⟨?_, rfl⟩
            have hf : findL s = some i := findL_some hi6 hc13 hl
            simp only [packed, findLoc, hf]
            simp_all [locOf, FLoc.cs]
            all_goals rfl
          · try simp only [decide_eq_false_iff_not] at hc42
            refine AWP.skip ?_
            refine Next.go ?_
            refine AWP.exit ?_
            refine Block.miss rfl ?_
            refine Next.ex ?_
            refine Block.miss rfl ?_
            refine Next.ex ?_
            refine Block.miss rfl ?_
            refine Next.ex ?_
            refine Block.hit ?_
            refine Next.go ?_
            refine AWP.seq ?_
            -- region 13
            refine AWP.region ?_
            first | (refine AList.p rfl (pure_loadN Tryz.isAgg29 Tryz.sizeOf29 (.tmp _ _ rfl) (Nat.le_of_ble_eq_true rfl)) ?_) | (refine AList.s rfl (step_loadN Tryz.isAgg29 Tryz.sizeOf29 (.tmp _ _ rfl) (by first | assumption | exact (by assumption : Heap.le _ _).objs _ _ (by assumption) | exact Heap.objs_set_same _ _ _ | exact (Heap.objs_set_ne _ _ (by assumption)).trans (Heap.objs_set_same _ _ _) | exact (Heap.objs_set_ne _ _ (by assumption)).trans ((Heap.objs_set_ne _ _ (by assumption)).trans (Heap.objs_set_same _ _ _)) | exact (Heap.objs_set_ne _ _ (by assumption)).trans (by assumption)) (Nat.le_of_ble_eq_true rfl)) ?_; rintro _ _ ⟨rfl, hH⟩; obtain rfl := hH.symm)
            refine AList.s0 (step_store Tryz.sizeOf29 (.tmp _ _ rfl) (.tmp _ _ rfl) rfl rfl (.inr ⟨_, rfl⟩) (by first | assumption | exact (by assumption : Heap.le _ _).objs _ _ (by assumption) | exact Heap.objs_set_same _ _ _ | exact (Heap.objs_set_ne _ _ (by assumption)).trans (Heap.objs_set_same _ _ _) | exact (Heap.objs_set_ne _ _ (by assumption)).trans ((Heap.objs_set_ne _ _ (by assumption)).trans (Heap.objs_set_same _ _ _)) | exact (Heap.objs_set_ne _ _ (by assumption)).trans (by assumption)) (Nat.le_of_ble_eq_true rfl)) ?_
            rintro _ _ ⟨rfl, hH⟩
            obtain rfl := hH.symm
            try first | rw [Heap.set_set] | rw [Heap.set_under (by assumption)]
            refine AList.p rfl (pure_assign ev_int) ?_
            refine AList.nil ?_
            refine Next.go ?_
            refine AWP.dropb (by first | exact hb5 | exact Heap.fresh_set hb5 _) ?_
            refine AWP.frz (t := 2) rfl (by first | exact hb2 | exact Heap.fresh_set hb2 _) ?_
            refine AWP.ret ?_
            refine Block.rt ?_
            refine Next.rt ?_
            refine Next.rt ?_
            refine Block.rt ?_
            refine Next.rt ?_
            -- ret 3
            refine Ret.go (.cons (.cellI _ _ _ _ rfl Tryz.isAgg29 Tryz.sizeOf29 rfl) (.cons (.tmp _ _ rfl) .nil)) _ (Heap.le.refl _) ?_
            refine ⟨?_, rfl⟩
            have hf : findL s = some i := findL_some hi6 hc13 hl
            simp only [packed, findLoc, hf]
            simp_all [locOf, FLoc.cs]
            all_goals rfl
  · try simp only [decide_eq_false_iff_not, Int.not_lt] at hc7
    refine AWP.exit ?_
    refine Next.ex ?_
    refine Next.ex ?_
    refine Block.hit ?_
    refine Next.go ?_
    refine AWP.seq ?_
    -- region 15
    refine AWP.region ?_
    refine AList.p rfl (pure_build [(0, 1), (1, 1), (2, 1), (3, 1), (4, 1), (5, 1), (6, 1), (7, 1), (8, 1), (9, 1)] Tryz.underlying29 Tryz.zeroValue29 (zr29) rfl (pl29 _ Tryz.underlying29) .nil rfl) ?_
    refine AList.s0 (step_store Tryz.sizeOf29 (.tmp _ _ rfl) (.tmp _ _ rfl) rfl rfl (.inr ⟨_, rfl⟩) (by first | assumption | exact (by assumption : Heap.le _ _).objs _ _ (by assumption) | exact Heap.objs_set_same _ _ _ | exact (Heap.objs_set_ne _ _ (by assumption)).trans (Heap.objs_set_same _ _ _) | exact (Heap.objs_set_ne _ _ (by assumption)).trans ((Heap.objs_set_ne _ _ (by assumption)).trans (Heap.objs_set_same _ _ _)) | exact (Heap.objs_set_ne _ _ (by assumption)).trans (by assumption)) (Nat.le_of_ble_eq_true rfl)) ?_
    rintro _ _ ⟨rfl, hH⟩
    obtain rfl := hH.symm
    try first | rw [Heap.set_set] | rw [Heap.set_under (by assumption)]
    refine AList.p rfl (pure_assign ev_int) ?_
    refine AList.nil ?_
    refine Next.go ?_
    refine AWP.frz (t := 2) rfl (by first | exact hb2 | exact Heap.fresh_set hb2 _) ?_
    refine AWP.ret ?_
    -- ret 4
    refine Ret.go (.cons (.cellI _ _ _ _ rfl Tryz.isAgg29 Tryz.sizeOf29 rfl) (.cons (.tmp _ _ rfl) .nil)) _ (Heap.le.refl _) ?_
    refine ⟨?_, rfl⟩
    have hf : findL s = none := findL_none fun j hj => hl j (by omega)
    simp only [packed, findLoc, hf]
    rfl

def callerA (q : FLoc) (po pr : AV) : AV := .iptr (q.cs ++ [po, pr])

set_option maxRecDepth 100000 in
theorem truth_calls (b : Nat) (q : FLoc) (po pr : AV) (l : List ArgN) (tl : Tail) (f : Int) (i : Nat) (hi : i < l.length) (hm : l.length ≤ 1000) (hv : (scalarV l[i]).bits < 18446744073709551616) (ht : (scalarV l[i]).text.length ≤ 1000) (H : Heap) (hb : H.objs b = some (callB (callerA q po pr) l tl f)) : ACall Tryz.prog 88 [.ptr (some ⟨b, 0, none⟩), .int .i64 (i : Int)] H (fun y H' => y = .bool (toBoolV (scalarV l[i])).1 ∧ H' = H.set b (callB (callerA q po pr) l tl (wrongF f (toBoolV (scalarV l[i])).2))) := by
  refine ACall.of_body Tryz.func88 rfl Tryz.ntmps88 Tryz.results88 rfl ?_
  refine AWP.seq ?_
  -- region 0
  refine AWP.region ?_
  refine AList.p rfl (pure_assign ev_bool) ?_
  refine AList.nil ?_
  refine Next.go ?_
  refine AWP.seq ?_
  -- region 1
  refine AWP.drawI (fun H2 => H2.objs b = some (callB (callerA q po pr) l tl f)) [(0, true), (1, true), (2, true), (3, true), (4, true), (5, true), (6, true), (7, true), (8, true), (9, true), (10, true), (11, true), (12, true), (13, true), (14, true), (15, true)] (by exact hb) rfl (by decide +kernel) ?_
  refine APlanI.p rfl rfl (pure_move (.tmp _ _ rfl)) ?_
  first | (refine APlanI.p rfl rfl (pure_nilCheckI (.tmp _ _ rfl)) ?_) | (refine APlanI.p rfl rfl (pure_nilCheck (.tmp _ _ rfl)) ?_) | (refine APlanI.p rfl rfl (pure_nilCheckF (.tmp _ _ rfl)) ?_)
  first | (refine APlanI.p rfl rfl (pure_fieldI Tryz.underlying79 rfl Tryz.sizeOf33 (.tmp _ _ rfl)) ?_) | (refine APlanI.p rfl rfl (pure_field Tryz.underlying79 rfl Tryz.sizeOf33 (.tmp _ _ rfl)) ?_)
  first | (refine APlanI.p rfl rfl (pure_load1 Tryz.isAgg33 (.tmp _ _ rfl)) ?_) | (refine APlanI.f rfl rfl (fun _ hI => step_load1 Tryz.isAgg33 (.tmp _ _ rfl) (by first | exact hb | exact hI | assumption | exact (by assumption : Heap.le _ _).objs _ _ (by assumption) | exact Heap.objs_set_same _ _ _ | exact (Heap.objs_set_ne _ _ (by assumption)).trans (Heap.objs_set_same _ _ _) | exact (Heap.objs_set_ne _ _ (by assumption)).trans ((Heap.objs_set_ne _ _ (by assumption)).trans (Heap.objs_set_same _ _ _)) | exact (Heap.objs_set_ne _ _ (by assumption)).trans (by assumption)) rfl) ?_)
  first | (refine APlanI.p rfl rfl (pure_nilCheckI (.tmp _ _ rfl)) ?_) | (refine APlanI.p rfl rfl (pure_nilCheck (.tmp _ _ rfl)) ?_) | (refine APlanI.p rfl rfl (pure_nilCheckF (.tmp _ _ rfl)) ?_)
  first | (refine APlanI.p rfl rfl (pure_fieldI Tryz.underlying69 rfl Tryz.sizeOf64 (.tmp _ _ rfl)) ?_) | (refine APlanI.p rfl rfl (pure_field Tryz.underlying69 rfl Tryz.sizeOf64 (.tmp _ _ rfl)) ?_)
  first | (refine APlanI.p rfl rfl (pure_load1 Tryz.isAgg64 (.tmp _ _ rfl)) ?_) | (refine APlanI.f rfl rfl (fun _ hI => step_load1 Tryz.isAgg64 (.tmp _ _ rfl) (by first | exact hb | exact hI | assumption | exact (by assumption : Heap.le _ _).objs _ _ (by assumption) | exact Heap.objs_set_same _ _ _ | exact (Heap.objs_set_ne _ _ (by assumption)).trans (Heap.objs_set_same _ _ _) | exact (Heap.objs_set_ne _ _ (by assumption)).trans ((Heap.objs_set_ne _ _ (by assumption)).trans (Heap.objs_set_same _ _ _)) | exact (Heap.objs_set_ne _ _ (by assumption)).trans (by assumption)) rfl) ?_)
  refine APlanI.p rfl rfl (pure_move (.tmp _ _ rfl)) ?_
  refine APlanI.p rfl rfl (pure_move (.tmp _ _ rfl)) ?_
  refine APlanI.f rfl rfl (fun _ hI => step_call0 Tryz.call80 (.cons (.tmp _ _ rfl) (.cons (.tmp _ _ rfl) .nil)) (scalar_calls b _ l tl f _ (by first | assumption | omega) (by first | assumption | omega) _ (by first | assumption | exact hI | exact Heap.objs_set_same _ _ _))) ?_
  refine APlanI.f rfl rfl (fun _ hI => step_call0 Tryz.call87 (.cons (.tmp _ _ rfl) (.cons (.tmp _ _ rfl) .nil)) (ToBool_calls _ _ (by assumption) (by assumption) _)) ?_
  refine APlanI.p rfl rfl (pure_move (.tmp _ _ rfl)) ?_
  refine APlanI.p rfl rfl (pure_extract (.tmp _ _ rfl) rfl) ?_
  refine APlanI.p rfl rfl (pure_extract (.tmp _ _ rfl) rfl) ?_
  refine APlanI.p rfl rfl (pure_assign (.tmp _ _ rfl)) ?_
  refine APlanI.p rfl rfl (pure_assign (.tmp _ _ rfl)) ?_
  refine APlanI.nil ?_
  refine Next.go ?_
  refine AWP.seq ?_
  -- region 2
  refine AWP.region ?_
  refine AList.p rfl (pure_move (.tmp _ _ rfl)) ?_
  refine AList.p rfl (pure_move (.tmp _ _ rfl)) ?_
  refine AList.s rfl (step_call0 Tryz.call65 (.cons (.tmp _ _ rfl) (.cons (.tmp _ _ rfl) .nil)) (wrong_calls b _ l tl f _ _ (by first | assumption | exact Heap.objs_set_same _ _ _))) ?_
  rintro _ _ ⟨rfl, hH⟩
  obtain rfl := hH.symm
  refine AList.nil ?_
  refine Next.go ?_
  refine AWP.seq ?_
  -- region 3
  refine AWP.region ?_
  refine AList.p rfl (pure_move (.tmp _ _ rfl)) ?_
  refine AList.p rfl (pure_assign (.tmp _ _ rfl)) ?_
  refine AList.nil ?_
  refine Next.go ?_
  refine AWP.ret ?_
  -- ret 0
  refine Ret.go (.cons (.tmp _ _ rfl) .nil) _ (Heap.le.refl _) ?_
  exact ⟨rfl, rfl⟩

end Go.Proofs.YtifoddpbmlajfaaGreatDoor
