/-
  New, and the law's own small functions.
-/
import Derived.Test.YtdibiongjkmlpaaGh
namespace Go.Proofs.Ytdibiongjkmlpaa
open Go Go.RowKit
theorem Area.ext2 {x y : Area} (h : x.a = y.a) (k : x.b = y.b) : x = y := by cases x; cases y; simp_all

set_option maxRecDepth 100000 in
theorem New_calls (H : Heap) : ACall Try.prog 29 [] H (fun x H' => ∃ b m, H.objs m = none ∧ b ≠ m ∧ H.objs b = none ∧ x = .ptr (some ⟨b, 0, none⟩) ∧ H' = (H.set m (.map (ents .i64 (pents [])))).set b (.box 80 [.map (some m)])) := by
  refine ACall.of_body Try.func29 rfl Try.ntmps29 Try.results29 rfl ?_
  refine AWP.seq ?_
  -- region 0
  refine AWP.region ?_
  refine AList.p rfl (pure_assign ev_nilptr) ?_
  refine AList.nil ?_
  refine Next.go ?_
  refine AWP.seq ?_
  -- region 1
  refine AWP.region ?_
  refine AList.s rfl (step_makeMap) ?_
  rintro _ _ ⟨m1, hm1, rfl, hH⟩
  obtain rfl := hH.symm
  refine AList.p rfl (pure_build [(0, 1)] Try.underlying80 Try.zeroValue80 (zr80) rfl (pl80 _ Try.underlying80) (.cons (.tmp _ _ rfl) (.inl rfl) .nil) rfl) ?_
  refine AList.s rfl (step_box (.tmp _ _ rfl) (.inr ⟨_, rfl⟩)) ?_
  rintro _ _ ⟨b3, hb3, rfl, hH⟩
  obtain rfl := hH.symm
  refine AList.p rfl (pure_assign (.tmp _ _ rfl)) ?_
  refine AList.nil ?_
  refine Next.go ?_
  refine AWP.ret ?_
  -- ret 0
  refine Ret.go (.cons (.tmp _ _ rfl) .nil) _ (Heap.le.refl _) ?_
  have hne : b3 ≠ m1 := by rintro rfl; simp at hb3
  exact ⟨b3, m1, hm1, hne, by rw [Heap.objs_set_ne _ _ hne] at hb3; exact hb3, rfl, rfl⟩

set_option maxRecDepth 100000 in
theorem one_calls (a b : Int) (ha : -9223372036854775808 ≤ a ∧ a ≤ 9223372036854775807) (hb : -9223372036854775808 ≤ b ∧ b ≤ 9223372036854775807) (H : Heap) : ACall Try.prog 30 [.int .i64 a, .int .i64 b] H (fun x H' => x = (⟨At a, At b⟩ : Area).av ∧ H' = H) := by
  refine ACall.of_body Try.func30 rfl Try.ntmps30 Try.results30 rfl ?_
  refine AWP.seq ?_
  -- region 0
  refine AWP.region ?_
  refine AList.s rfl (step_alloc Try.zeroValue52 (zr52)) ?_
  rintro _ _ ⟨b4, hb4, rfl, hH⟩
  obtain rfl := hH.symm
  refine AList.nil ?_
  refine Next.go ?_
  refine AWP.seq ?_
  -- region 1
  refine AWP.region ?_
  refine AList.p rfl (pure_move (.tmp _ _ rfl)) ?_
  refine AList.s rfl (step_call0 Try.call50 (.cons (.tmp _ _ rfl) .nil) (At_calls _ (by first | assumption | omega) _)) ?_
  rintro _ _ ⟨rfl, hH⟩
  obtain rfl := hH.symm
  refine AList.p rfl (pure_move (.tmp _ _ rfl)) ?_
  refine AList.s rfl (step_call0 Try.call50 (.cons (.tmp _ _ rfl) .nil) (At_calls _ (by first | assumption | omega) _)) ?_
  rintro _ _ ⟨rfl, hH⟩
  obtain rfl := hH.symm
  refine AList.p rfl (pure_build [(0, 4), (4, 4)] Try.underlying52 Try.zeroValue52 (zr52) rfl (pl52 _ Try.underlying52) (.cons (.tmp _ _ rfl) (.inr ⟨_, rfl⟩) (.cons (.tmp _ _ rfl) (.inr ⟨_, rfl⟩) .nil)) rfl) ?_
  refine AList.s0 (step_store Try.sizeOf52 (.tmp _ _ rfl) (.tmp _ _ rfl) rfl rfl (.inr ⟨_, rfl⟩) (by first | assumption | exact (by assumption : Heap.le _ _).objs _ _ (by assumption) | exact Heap.objs_set_same _ _ _ | exact (Heap.objs_set_ne _ _ (by assumption)).trans (Heap.objs_set_same _ _ _) | exact (Heap.objs_set_ne _ _ (by assumption)).trans ((Heap.objs_set_ne _ _ (by assumption)).trans (Heap.objs_set_same _ _ _)) | exact (Heap.objs_set_ne _ _ (by assumption)).trans (by assumption)) (Nat.le_of_ble_eq_true rfl)) ?_
  rintro _ _ ⟨rfl, hH⟩
  obtain rfl := hH.symm
  try first | rw [Heap.set_set] | rw [Heap.set_under (by assumption)]
  refine AList.nil ?_
  refine Next.go ?_
  refine AWP.frz (t := 4) rfl (by first | exact hb4 | exact Heap.fresh_set hb4 _) ?_
  refine AWP.ret ?_
  -- ret 0
  refine Ret.go (.cons (.cellI _ _ _ _ rfl Try.isAgg52 Try.sizeOf52 rfl) .nil) _ (Heap.le.refl _) ?_
  exact ⟨rfl, rfl⟩

theorem take_eq_get {α : Type} {l q : List α} {i : Nat} (h : i < l.length) (h' : i < q.length) (hl : l.take i = q.take i) (he : l[i] = q[i]) : l.take (i + 1) = q.take (i + 1) := by
  rw [take_succ_get l i h, take_succ_get q i h', hl, he]

def sameA_J (l q : List Area) (tl tl2 : Tail) (H : Heap) : Nat → Env → Heap → Prop := fun k env H1 => ∃ i : Nat, i ≤ l.length ∧ l.take i = q.take i ∧ env = [(0, .slice 8 (l.map Area.av) tl), (1, .slice 8 (q.map Area.av) tl2), (5, .int .i64 i)] ∧ H = H1 ∧ k = l.length - i

set_option maxRecDepth 100000 in
theorem sameAreas_calls (l q : List Area) (tl tl2 : Tail) (hl : l.length ≤ 1000000) (H : Heap) : ACall Try.prog 24 [.slice 8 (l.map Area.av) tl, .slice 8 (q.map Area.av) tl2] H (fun x H' => x = .bool (decide (l = q)) ∧ H' = H) := by
  refine ACall.of_body Try.func24 rfl Try.ntmps24 Try.results24 rfl ?_
  refine AWP.seq ?_
  -- region 0
  refine AWP.region ?_
  refine AList.p rfl (pure_assign ev_bool) ?_
  refine AList.nil ?_
  refine Next.go ?_
  refine AWP.seq ?_
  refine AWP.seq ?_
  -- region 1
  refine AWP.region ?_
  refine AList.p rfl (pure_move (.tmp _ _ rfl)) ?_
  first | (refine AList.p rfl (pure_lenL Try.underlying39 (.tmp _ _ rfl)) ?_) | (refine AList.p rfl (pure_lenS Try.underlying39 (.tmp _ _ rfl)) ?_) | (refine AList.p rfl (pure_lenM Try.underlying39 (.tmp _ _ rfl)) ?_)
  refine AList.p rfl (pure_move (.tmp _ _ rfl)) ?_
  first | (refine AList.p rfl (pure_lenL Try.underlying41 (.tmp _ _ rfl)) ?_) | (refine AList.p rfl (pure_lenS Try.underlying41 (.tmp _ _ rfl)) ?_) | (refine AList.p rfl (pure_lenM Try.underlying41 (.tmp _ _ rfl)) ?_)
  refine AList.p rfl (pure_neq (.tmp _ _ rfl) (.tmp _ _ rfl)) ?_
  refine AList.nil ?_
  refine Next.go ?_
  -- c0
  refine AWP.cond (.tmp _ _ rfl) (fun hc10 => ?_) (fun hc10 => ?_)
  · try simp only [decide_eq_true_eq, ne_eq] at hc10
    refine AWP.seq ?_
    -- region 2
    refine AWP.region ?_
    refine AList.p rfl (pure_assign ev_bool) ?_
    refine AList.nil ?_
    refine Next.go ?_
    refine AWP.ret ?_
    refine Next.rt ?_
    -- ret 0
    refine Ret.go (.cons (.tmp _ _ rfl) .nil) _ (Heap.le.refl _) ?_
    have hno : ¬ l = q := fun h => by subst h; omega
    refine ⟨by rw [decide_eq_false hno]; rfl, rfl⟩
  · try simp only [decide_eq_false_iff_not, ne_eq, Decidable.not_not] at hc10
    refine AWP.skip ?_
    refine Next.go ?_
    refine AWP.seq ?_
    refine AWP.seq ?_
    have hlq : l.length = q.length := by omega
    -- region 3
    refine AWP.region ?_
    refine AList.p rfl (pure_assign ev_int) ?_
    refine AList.nil ?_
    refine Next.go ?_
    refine AWP.block ?_
    -- L0
    refine AWP.loopW (sameA_J l q tl tl2 H) (l.length) ⟨0, Nat.zero_le _, by simp, rfl, rfl, by omega⟩ (sub_c rfl (sub_c rfl (sub_c rfl sub_n))) (Heap.le.refl _) ?_
    rintro _ _ _ ⟨i, hi, hp, rfl, rfl, rfl⟩
    refine AWP.seq ?_
    refine AWP.seq ?_
    -- region 4
    refine AWP.region ?_
    refine AList.p rfl (pure_move (.tmp _ _ rfl)) ?_
    refine AList.p rfl (pure_move (.tmp _ _ rfl)) ?_
    first | (refine AList.p rfl (pure_lenL Try.underlying39 (.tmp _ _ rfl)) ?_) | (refine AList.p rfl (pure_lenS Try.underlying39 (.tmp _ _ rfl)) ?_) | (refine AList.p rfl (pure_lenM Try.underlying39 (.tmp _ _ rfl)) ?_)
    refine AList.p rfl (pure_lss (.tmp _ _ rfl) (.tmp _ _ rfl)) ?_
    refine AList.nil ?_
    refine Next.go ?_
    -- c1
    refine AWP.cond (.tmp _ _ rfl) (fun hc14 => ?_) (fun hc14 => ?_)
    · try simp only [decide_eq_true_eq] at hc14
      refine AWP.skip ?_
      refine Next.go ?_
      refine AWP.seq ?_
      refine AWP.block ?_
      refine AWP.seq ?_
      -- region 6
      refine AWP.draw [(0, true), (1, true), (2, true), (3, true), (4, true), (5, true), (6, true), (7, true), (8, true), (9, true), (10, true), (11, true), (12, true), (13, true), (14, true), (15, true), (16, true), (17, true), (18, true), (19, true), (20, true), (21, true), (22, true), (23, true)] rfl (by decide +kernel) ?_
      refine APlan.p rfl rfl (pure_move (.tmp _ _ rfl)) ?_
      refine APlan.p rfl rfl (pure_move (.tmp _ _ rfl)) ?_
      first | (refine APlan.p rfl rfl (pure_indexL Try.underlying39 Try.sizeOf52 (.tmp _ _ rfl) (.tmp _ _ rfl) (by omega) (by omega)) ?_) | (refine APlan.p rfl rfl (pure_indexM Try.underlying39 Try.sizeOf52 (.tmp _ _ rfl) (.tmp _ _ rfl) (by omega) (by omega)) ?_)
      first | (refine APlan.p rfl rfl (pure_fieldI Try.underlying52 rfl Try.sizeOf50 (.tmp _ _ rfl)) ?_) | (refine APlan.p rfl rfl (pure_field Try.underlying52 rfl Try.sizeOf50 (.tmp _ _ rfl)) ?_)
      first | (refine APlan.p rfl rfl (pure_loadN Try.isAgg50 Try.sizeOf50 (.tmp _ _ rfl) (Nat.le_of_ble_eq_true rfl)) ?_) | (refine APlan.f rfl rfl (fun _ => step_loadN Try.isAgg50 Try.sizeOf50 (.tmp _ _ rfl) (by first | assumption | exact (by assumption : Heap.le _ _).objs _ _ (by assumption) | exact Heap.objs_set_same _ _ _ | exact (Heap.objs_set_ne _ _ (by assumption)).trans (Heap.objs_set_same _ _ _) | exact (Heap.objs_set_ne _ _ (by assumption)).trans ((Heap.objs_set_ne _ _ (by assumption)).trans (Heap.objs_set_same _ _ _)) | exact (Heap.objs_set_ne _ _ (by assumption)).trans (by assumption)) (Nat.le_of_ble_eq_true rfl)) ?_)
      refine APlan.p rfl rfl (pure_move (.tmp _ _ rfl)) ?_
      refine APlan.p rfl rfl (pure_move (.tmp _ _ rfl)) ?_
      first | (refine APlan.p rfl rfl (pure_indexL Try.underlying41 Try.sizeOf60 (.tmp _ _ rfl) (.tmp _ _ rfl) (by omega) (by omega)) ?_) | (refine APlan.p rfl rfl (pure_indexM Try.underlying41 Try.sizeOf60 (.tmp _ _ rfl) (.tmp _ _ rfl) (by omega) (by omega)) ?_)
      first | (refine APlan.p rfl rfl (pure_fieldI Try.underlying60 rfl Try.sizeOf50 (.tmp _ _ rfl)) ?_) | (refine APlan.p rfl rfl (pure_field Try.underlying60 rfl Try.sizeOf50 (.tmp _ _ rfl)) ?_)
      first | (refine APlan.p rfl rfl (pure_loadN Try.isAgg50 Try.sizeOf50 (.tmp _ _ rfl) (Nat.le_of_ble_eq_true rfl)) ?_) | (refine APlan.f rfl rfl (fun _ => step_loadN Try.isAgg50 Try.sizeOf50 (.tmp _ _ rfl) (by first | assumption | exact (by assumption : Heap.le _ _).objs _ _ (by assumption) | exact Heap.objs_set_same _ _ _ | exact (Heap.objs_set_ne _ _ (by assumption)).trans (Heap.objs_set_same _ _ _) | exact (Heap.objs_set_ne _ _ (by assumption)).trans ((Heap.objs_set_ne _ _ (by assumption)).trans (Heap.objs_set_same _ _ _)) | exact (Heap.objs_set_ne _ _ (by assumption)).trans (by assumption)) (Nat.le_of_ble_eq_true rfl)) ?_)
      refine APlan.p rfl rfl (pure_neqA Try.eqGuardType50 (.tmp _ _ rfl) (.tmp _ _ rfl) (eqRef (l[(i : Int).toNat]'(by omega)).a (q[(i : Int).toNat]'(by omega)).a)) ?_
      refine APlan.p rfl rfl (pure_move (.tmp _ _ rfl)) ?_
      -- the guard in slot 28
      refine bool_casesP (t := 28) rfl (fun hg28 => ?_) (fun hg28 => ?_)
      · have hh28 := hg28; try simp only [decide_eq_false_iff_not, Bool.not_eq_true'] at hh28
        refine APlan.gn rfl rfl rfl rfl (by first | rfl | assumption) ?_
        refine APlan.gn rfl rfl rfl rfl (by first | rfl | assumption) ?_
        refine APlan.gn rfl rfl rfl rfl (by first | rfl | assumption) ?_
        refine APlan.gn rfl rfl rfl rfl (by first | rfl | assumption) ?_
        refine APlan.gn rfl rfl rfl rfl (by first | rfl | assumption) ?_
        refine APlan.gn rfl rfl rfl rfl (by first | rfl | assumption) ?_
        refine APlan.gn rfl rfl rfl rfl (by first | rfl | assumption) ?_
        refine APlan.gn rfl rfl rfl rfl (by first | rfl | assumption) ?_
        refine APlan.gn rfl rfl rfl rfl (by first | rfl | assumption) ?_
        refine APlan.gn rfl rfl rfl rfl (by first | rfl | assumption) ?_
        refine APlan.gn rfl rfl rfl rfl (by first | rfl | assumption) ?_
        refine APlan.p rfl rfl (pure_pickT (.tmp _ _ rfl) (by first | rfl | assumption) ev_bool) ?_
        refine APlan.nil ?_
        refine Next.go ?_
        -- c2
        refine AWP.cond_true (.tmp _ _ rfl) (by first | rfl | assumption) ?_
        refine AWP.seq ?_
        -- region 7
        refine AWP.region ?_
        refine AList.p rfl (pure_assign ev_bool) ?_
        refine AList.nil ?_
        refine Next.go ?_
        refine AWP.ret ?_
        refine Block.rt ?_
        refine Next.rt ?_
        refine Next.rt ?_
        refine Block.rt ?_
        refine Next.rt ?_
        -- ret 1
        refine Ret.go (.cons (.tmp _ _ rfl) .nil) _ (Heap.le.refl _) ?_
        have hno : ¬ l = q := fun h => by subst h; simp at hg28
        refine ⟨by rw [decide_eq_false hno]; rfl, rfl⟩
      · have hh28 := hg28; try simp only [decide_eq_true_eq, Bool.not_eq_false'] at hh28
        refine APlan.gp rfl rfl rfl rfl (by first | rfl | assumption) (pure_move (.tmp _ _ rfl)) ?_
        refine APlan.gp rfl rfl rfl rfl (by first | rfl | assumption) (pure_move (.tmp _ _ rfl)) ?_
        first | (refine APlan.gp rfl rfl rfl rfl (by first | rfl | assumption) (pure_indexL Try.underlying39 Try.sizeOf52 (.tmp _ _ rfl) (.tmp _ _ rfl) (by omega) (by omega)) ?_) | (refine APlan.gp rfl rfl rfl rfl (by first | rfl | assumption) (pure_indexM Try.underlying39 Try.sizeOf52 (.tmp _ _ rfl) (.tmp _ _ rfl) (by omega) (by omega)) ?_)
        first | (refine APlan.gp rfl rfl rfl rfl (by first | rfl | assumption) (pure_fieldI Try.underlying52 rfl Try.sizeOf50 (.tmp _ _ rfl)) ?_) | (refine APlan.gp rfl rfl rfl rfl (by first | rfl | assumption) (pure_field Try.underlying52 rfl Try.sizeOf50 (.tmp _ _ rfl)) ?_)
        first | (refine APlan.gp rfl rfl rfl rfl (by first | rfl | assumption) (pure_loadN Try.isAgg50 Try.sizeOf50 (.tmp _ _ rfl) (Nat.le_of_ble_eq_true rfl)) ?_) | (refine APlan.gf rfl rfl rfl rfl (by first | rfl | assumption) (fun _ => step_loadN Try.isAgg50 Try.sizeOf50 (.tmp _ _ rfl) (by first | assumption | exact (by assumption : Heap.le _ _).objs _ _ (by assumption) | exact Heap.objs_set_same _ _ _ | exact (Heap.objs_set_ne _ _ (by assumption)).trans (Heap.objs_set_same _ _ _) | exact (Heap.objs_set_ne _ _ (by assumption)).trans ((Heap.objs_set_ne _ _ (by assumption)).trans (Heap.objs_set_same _ _ _)) | exact (Heap.objs_set_ne _ _ (by assumption)).trans (by assumption)) (Nat.le_of_ble_eq_true rfl)) ?_)
        refine APlan.gp rfl rfl rfl rfl (by first | rfl | assumption) (pure_move (.tmp _ _ rfl)) ?_
        refine APlan.gp rfl rfl rfl rfl (by first | rfl | assumption) (pure_move (.tmp _ _ rfl)) ?_
        first | (refine APlan.gp rfl rfl rfl rfl (by first | rfl | assumption) (pure_indexL Try.underlying41 Try.sizeOf60 (.tmp _ _ rfl) (.tmp _ _ rfl) (by omega) (by omega)) ?_) | (refine APlan.gp rfl rfl rfl rfl (by first | rfl | assumption) (pure_indexM Try.underlying41 Try.sizeOf60 (.tmp _ _ rfl) (.tmp _ _ rfl) (by omega) (by omega)) ?_)
        first | (refine APlan.gp rfl rfl rfl rfl (by first | rfl | assumption) (pure_fieldI Try.underlying60 rfl Try.sizeOf50 (.tmp _ _ rfl)) ?_) | (refine APlan.gp rfl rfl rfl rfl (by first | rfl | assumption) (pure_field Try.underlying60 rfl Try.sizeOf50 (.tmp _ _ rfl)) ?_)
        first | (refine APlan.gp rfl rfl rfl rfl (by first | rfl | assumption) (pure_loadN Try.isAgg50 Try.sizeOf50 (.tmp _ _ rfl) (Nat.le_of_ble_eq_true rfl)) ?_) | (refine APlan.gf rfl rfl rfl rfl (by first | rfl | assumption) (fun _ => step_loadN Try.isAgg50 Try.sizeOf50 (.tmp _ _ rfl) (by first | assumption | exact (by assumption : Heap.le _ _).objs _ _ (by assumption) | exact Heap.objs_set_same _ _ _ | exact (Heap.objs_set_ne _ _ (by assumption)).trans (Heap.objs_set_same _ _ _) | exact (Heap.objs_set_ne _ _ (by assumption)).trans ((Heap.objs_set_ne _ _ (by assumption)).trans (Heap.objs_set_same _ _ _)) | exact (Heap.objs_set_ne _ _ (by assumption)).trans (by assumption)) (Nat.le_of_ble_eq_true rfl)) ?_)
        refine APlan.gp rfl rfl rfl rfl (by first | rfl | assumption) (pure_neqA Try.eqGuardType50 (.tmp _ _ rfl) (.tmp _ _ rfl) (eqRef (l[(i : Int).toNat]'(by omega)).b (q[(i : Int).toNat]'(by omega)).b)) ?_
        refine APlan.p rfl rfl (pure_pickF (.tmp _ _ rfl) (by first | rfl | assumption) (.tmp _ _ rfl)) ?_
        refine APlan.nil ?_
        refine Next.go ?_
        -- c2
        refine AWP.cond (.tmp _ _ rfl) (fun hc40 => ?_) (fun hc40 => ?_)
        · try simp only [decide_eq_false_iff_not, Bool.not_eq_true'] at hc40
          refine AWP.seq ?_
          -- region 7
          refine AWP.region ?_
          refine AList.p rfl (pure_assign ev_bool) ?_
          refine AList.nil ?_
          refine Next.go ?_
          refine AWP.ret ?_
          refine Block.rt ?_
          refine Next.rt ?_
          refine Next.rt ?_
          refine Block.rt ?_
          refine Next.rt ?_
          -- ret 2
          refine Ret.go (.cons (.tmp _ _ rfl) .nil) _ (Heap.le.refl _) ?_
          have hno : ¬ l = q := fun h => by subst h; simp at hc40
          refine ⟨by rw [decide_eq_false hno]; rfl, rfl⟩
        · try simp only [decide_eq_true_eq, Bool.not_eq_false'] at hc40
          refine AWP.skip ?_
          refine Block.go ?_
          refine Next.go ?_
          -- region 5
          refine AWP.region ?_
          refine AList.p rfl (pure_move (.tmp _ _ rfl)) ?_
          refine AList.p rfl (pure_add (.tmp _ _ rfl) ev_int (by omega)) ?_
          refine AList.p rfl (pure_assign (.tmp _ _ rfl)) ?_
          refine AList.nil ?_
          refine Next.go ?_
          refine Round.mk (J := sameA_J l q tl tl2 H) ⟨i + 1, by omega, take_eq_get (by omega) (by omega) hp (Area.ext2 (by simpa using hg28) (by simpa using hc40)), rfl, rfl, rfl⟩ (sub_c rfl (sub_c rfl (sub_c rfl sub_n))) (Heap.le.refl _) (by omega)
    · try simp only [decide_eq_false_iff_not, Int.not_lt] at hc14
      refine AWP.exit ?_
      refine Next.ex ?_
      refine Next.ex ?_
      refine Block.hit ?_
      refine Next.go ?_
      refine AWP.seq ?_
      -- region 8
      refine AWP.region ?_
      refine AList.p rfl (pure_assign ev_bool) ?_
      refine AList.nil ?_
      refine Next.go ?_
      refine AWP.ret ?_
      -- ret 3
      refine Ret.go (.cons (.tmp _ _ rfl) .nil) _ (Heap.le.refl _) ?_
      have hyes : l = q := by rw [List.take_of_length_le (by omega), List.take_of_length_le (by omega)] at hp; exact hp
      exact ⟨by rw [decide_eq_true hyes]; rfl, rfl⟩

theorem atRaw_bd (n : Int) (h : -9223372036854775808 ≤ n ∧ n ≤ 9223372036854775807) : 0 ≤ atRaw n ∧ atRaw n < 1000 := by
  have hb := pick_bd n 20 (by omega) h
  unfold atRaw
  generalize pick n 20 = p at hb
  rw [Int.tdiv_eq_ediv_of_nonneg hb.1, Int.tmod_eq_emod_of_nonneg hb.1]
  omega
def areaOf (a b c : Int) : Area := if c.tmod 7 = 0 then ⟨At (atRaw a), At (atRaw a)⟩ else
  ⟨⟨imin (At (atRaw a)).col (At (atRaw b)).col, imin (At (atRaw a)).row (At (atRaw b)).row, false, false⟩, ⟨imax (At (atRaw a)).col (At (atRaw b)).col, imax (At (atRaw a)).row (At (atRaw b)).row, false, false⟩⟩



set_option maxRecDepth 100000 in
theorem area_calls (a b c d : Int) (ha : -9223372036854775808 ≤ a ∧ a ≤ 9223372036854775807) (hb : -9223372036854775808 ≤ b ∧ b ≤ 9223372036854775807) (hc : -9223372036854775808 ≤ c ∧ c ≤ 9223372036854775807) (H : Heap) : ACall Try.prog 31 [.agg [.int .i64 a, .int .i64 b, .int .i64 c, .int .i64 d]] H (fun x H' => x = (areaOf a b c).av ∧ H' = H) := by
  have ha0 := atRaw_bd a ha
  have hb0 := atRaw_bd b hb
  refine ACall.of_body Try.func31 rfl Try.ntmps31 Try.results31 rfl ?_
  refine AWP.seq ?_
  -- region 0
  refine AWP.region ?_
  refine AList.s rfl (step_boxI (.tmp _ _ rfl) (.inr ⟨_, rfl⟩)) ?_
  rintro _ _ ⟨rfl, hH⟩
  obtain rfl := hH.symm
  refine AList.s rfl (step_alloc Try.zeroValue60 (zr60)) ?_
  rintro _ _ ⟨b2, hb2, rfl, hH⟩
  obtain rfl := hH.symm
  refine AList.nil ?_
  refine Next.go ?_
  refine AWP.seq ?_
  -- region 1
  refine AWP.region ?_
  first | (refine AList.p rfl (pure_indexA Try.underlying62 Try.sizeOf3 (.tmp _ _ rfl) ev_int (by omega) (by omega)) ?_) | (refine AList.p rfl (pure_indexB Try.underlying62 Try.sizeOf3 (.tmp _ _ rfl) ev_int (by omega) (by omega)) ?_)
  first | (refine AList.p rfl (pure_load1 Try.isAgg3 (.tmp _ _ rfl)) ?_) | (refine AList.s rfl (step_load1 Try.isAgg3 (.tmp _ _ rfl) (by first | assumption | exact (by assumption : Heap.le _ _).objs _ _ (by assumption) | exact Heap.objs_set_same _ _ _ | exact (Heap.objs_set_ne _ _ (by assumption)).trans (Heap.objs_set_same _ _ _) | exact (Heap.objs_set_ne _ _ (by assumption)).trans ((Heap.objs_set_ne _ _ (by assumption)).trans (Heap.objs_set_same _ _ _)) | exact (Heap.objs_set_ne _ _ (by assumption)).trans (by assumption)) rfl) ?_; rintro _ _ ⟨rfl, hH⟩; obtain rfl := hH.symm)
  refine AList.s rfl (step_call0 Try.call27 (.cons (.tmp _ _ rfl) .nil) (atRaw_calls _ (by first | assumption | omega) _)) ?_
  rintro _ _ ⟨rfl, hH⟩
  obtain rfl := hH.symm
  refine AList.s rfl (step_call0 Try.call54 (.cons (.tmp _ _ rfl) .nil) (refAt_calls _ (by first | assumption | omega) _)) ?_
  rintro _ _ ⟨rfl, hH⟩
  obtain rfl := hH.symm
  refine AList.s rfl (step_alloc Try.zeroValue50 (zr50)) ?_
  rintro _ _ ⟨b3, hb3, rfl, hH⟩
  obtain rfl := hH.symm
  have hn2_3 := Heap.ne_of (by first | assumption | exact (by assumption : Heap.le _ _).objs _ _ (by assumption) | exact Heap.objs_set_same _ _ _ | exact (Heap.objs_set_ne _ _ (by assumption)).trans (Heap.objs_set_same _ _ _) | exact (Heap.objs_set_ne _ _ (by assumption)).trans ((Heap.objs_set_ne _ _ (by assumption)).trans (Heap.objs_set_same _ _ _)) | exact (Heap.objs_set_ne _ _ (by assumption)).trans (by assumption)) hb3
  refine AList.s0 (step_store Try.sizeOf50 (.tmp _ _ rfl) (.tmp _ _ rfl) rfl rfl (.inr ⟨_, rfl⟩) (by first | assumption | exact (by assumption : Heap.le _ _).objs _ _ (by assumption) | exact Heap.objs_set_same _ _ _ | exact (Heap.objs_set_ne _ _ (by assumption)).trans (Heap.objs_set_same _ _ _) | exact (Heap.objs_set_ne _ _ (by assumption)).trans ((Heap.objs_set_ne _ _ (by assumption)).trans (Heap.objs_set_same _ _ _)) | exact (Heap.objs_set_ne _ _ (by assumption)).trans (by assumption)) (Nat.le_of_ble_eq_true rfl)) ?_
  rintro _ _ ⟨rfl, hH⟩
  obtain rfl := hH.symm
  try first | rw [Heap.set_set] | rw [Heap.set_under (by assumption)]
  refine AList.nil ?_
  refine Next.go ?_
  refine AWP.frz (t := 3) rfl (by first | exact hb3 | exact Heap.fresh_set hb3 _) ?_
  refine AWP.seq ?_
  -- region 2
  refine AWP.region ?_
  first | (refine AList.p rfl (pure_indexA Try.underlying62 Try.sizeOf3 (.tmp _ _ rfl) ev_int (by omega) (by omega)) ?_) | (refine AList.p rfl (pure_indexB Try.underlying62 Try.sizeOf3 (.tmp _ _ rfl) ev_int (by omega) (by omega)) ?_)
  first | (refine AList.p rfl (pure_load1 Try.isAgg3 (.tmp _ _ rfl)) ?_) | (refine AList.s rfl (step_load1 Try.isAgg3 (.tmp _ _ rfl) (by first | assumption | exact (by assumption : Heap.le _ _).objs _ _ (by assumption) | exact Heap.objs_set_same _ _ _ | exact (Heap.objs_set_ne _ _ (by assumption)).trans (Heap.objs_set_same _ _ _) | exact (Heap.objs_set_ne _ _ (by assumption)).trans ((Heap.objs_set_ne _ _ (by assumption)).trans (Heap.objs_set_same _ _ _)) | exact (Heap.objs_set_ne _ _ (by assumption)).trans (by assumption)) rfl) ?_; rintro _ _ ⟨rfl, hH⟩; obtain rfl := hH.symm)
  refine AList.s rfl (step_call0 Try.call27 (.cons (.tmp _ _ rfl) .nil) (atRaw_calls _ (by first | assumption | omega) _)) ?_
  rintro _ _ ⟨rfl, hH⟩
  obtain rfl := hH.symm
  refine AList.s rfl (step_call0 Try.call54 (.cons (.tmp _ _ rfl) .nil) (refAt_calls _ (by first | assumption | omega) _)) ?_
  rintro _ _ ⟨rfl, hH⟩
  obtain rfl := hH.symm
  refine AList.s rfl (step_alloc Try.zeroValue50 (zr50)) ?_
  rintro _ _ ⟨b4, hb4, rfl, hH⟩
  obtain rfl := hH.symm
  have hn2_4 := Heap.ne_of (by first | assumption | exact (by assumption : Heap.le _ _).objs _ _ (by assumption) | exact Heap.objs_set_same _ _ _ | exact (Heap.objs_set_ne _ _ (by assumption)).trans (Heap.objs_set_same _ _ _) | exact (Heap.objs_set_ne _ _ (by assumption)).trans ((Heap.objs_set_ne _ _ (by assumption)).trans (Heap.objs_set_same _ _ _)) | exact (Heap.objs_set_ne _ _ (by assumption)).trans (by assumption)) hb4
  refine AList.s0 (step_store Try.sizeOf50 (.tmp _ _ rfl) (.tmp _ _ rfl) rfl rfl (.inr ⟨_, rfl⟩) (by first | assumption | exact (by assumption : Heap.le _ _).objs _ _ (by assumption) | exact Heap.objs_set_same _ _ _ | exact (Heap.objs_set_ne _ _ (by assumption)).trans (Heap.objs_set_same _ _ _) | exact (Heap.objs_set_ne _ _ (by assumption)).trans ((Heap.objs_set_ne _ _ (by assumption)).trans (Heap.objs_set_same _ _ _)) | exact (Heap.objs_set_ne _ _ (by assumption)).trans (by assumption)) (Nat.le_of_ble_eq_true rfl)) ?_
  rintro _ _ ⟨rfl, hH⟩
  obtain rfl := hH.symm
  try first | rw [Heap.set_set] | rw [Heap.set_under (by assumption)]
  refine AList.nil ?_
  refine Next.go ?_
  refine AWP.frz (t := 4) rfl (by first | exact hb4 | exact Heap.fresh_set hb4 _) ?_
  refine AWP.seq ?_
  refine AWP.seq ?_
  -- region 3
  refine AWP.region ?_
  first | (refine AList.p rfl (pure_indexA Try.underlying62 Try.sizeOf3 (.tmp _ _ rfl) ev_int (by omega) (by omega)) ?_) | (refine AList.p rfl (pure_indexB Try.underlying62 Try.sizeOf3 (.tmp _ _ rfl) ev_int (by omega) (by omega)) ?_)
  first | (refine AList.p rfl (pure_load1 Try.isAgg3 (.tmp _ _ rfl)) ?_) | (refine AList.s rfl (step_load1 Try.isAgg3 (.tmp _ _ rfl) (by first | assumption | exact (by assumption : Heap.le _ _).objs _ _ (by assumption) | exact Heap.objs_set_same _ _ _ | exact (Heap.objs_set_ne _ _ (by assumption)).trans (Heap.objs_set_same _ _ _) | exact (Heap.objs_set_ne _ _ (by assumption)).trans ((Heap.objs_set_ne _ _ (by assumption)).trans (Heap.objs_set_same _ _ _)) | exact (Heap.objs_set_ne _ _ (by assumption)).trans (by assumption)) rfl) ?_; rintro _ _ ⟨rfl, hH⟩; obtain rfl := hH.symm)
  refine AList.p rfl (pure_rem (.tmp _ _ rfl) ev_int (by omega)) ?_
  refine AList.p rfl (pure_eql (.tmp _ _ rfl) ev_int) ?_
  refine AList.nil ?_
  refine Next.go ?_
  -- c0
  refine AWP.cond (.tmp _ _ rfl) (fun hc16 => ?_) (fun hc16 => ?_)
  · try simp only [decide_eq_true_eq] at hc16
    refine AWP.seq ?_
    -- region 4
    refine AWP.region ?_
    first | (refine AList.p rfl (pure_loadN Try.isAgg50 Try.sizeOf50 (.tmp _ _ rfl) (Nat.le_of_ble_eq_true rfl)) ?_) | (refine AList.s rfl (step_loadN Try.isAgg50 Try.sizeOf50 (.tmp _ _ rfl) (by first | assumption | exact (by assumption : Heap.le _ _).objs _ _ (by assumption) | exact Heap.objs_set_same _ _ _ | exact (Heap.objs_set_ne _ _ (by assumption)).trans (Heap.objs_set_same _ _ _) | exact (Heap.objs_set_ne _ _ (by assumption)).trans ((Heap.objs_set_ne _ _ (by assumption)).trans (Heap.objs_set_same _ _ _)) | exact (Heap.objs_set_ne _ _ (by assumption)).trans (by assumption)) (Nat.le_of_ble_eq_true rfl)) ?_; rintro _ _ ⟨rfl, hH⟩; obtain rfl := hH.symm)
    first | (refine AList.p rfl (pure_loadN Try.isAgg50 Try.sizeOf50 (.tmp _ _ rfl) (Nat.le_of_ble_eq_true rfl)) ?_) | (refine AList.s rfl (step_loadN Try.isAgg50 Try.sizeOf50 (.tmp _ _ rfl) (by first | assumption | exact (by assumption : Heap.le _ _).objs _ _ (by assumption) | exact Heap.objs_set_same _ _ _ | exact (Heap.objs_set_ne _ _ (by assumption)).trans (Heap.objs_set_same _ _ _) | exact (Heap.objs_set_ne _ _ (by assumption)).trans ((Heap.objs_set_ne _ _ (by assumption)).trans (Heap.objs_set_same _ _ _)) | exact (Heap.objs_set_ne _ _ (by assumption)).trans (by assumption)) (Nat.le_of_ble_eq_true rfl)) ?_; rintro _ _ ⟨rfl, hH⟩; obtain rfl := hH.symm)
    refine AList.p rfl (pure_build [(0, 4), (4, 4)] Try.underlying60 Try.zeroValue60 (zr60) rfl (pl60 _ Try.underlying60) (.cons (.tmp _ _ rfl) (.inr ⟨_, rfl⟩) (.cons (.tmp _ _ rfl) (.inr ⟨_, rfl⟩) .nil)) rfl) ?_
    refine AList.s0 (step_store Try.sizeOf60 (.tmp _ _ rfl) (.tmp _ _ rfl) rfl rfl (.inr ⟨_, rfl⟩) (by first | assumption | exact (by assumption : Heap.le _ _).objs _ _ (by assumption) | exact Heap.objs_set_same _ _ _ | exact (Heap.objs_set_ne _ _ (by assumption)).trans (Heap.objs_set_same _ _ _) | exact (Heap.objs_set_ne _ _ (by assumption)).trans ((Heap.objs_set_ne _ _ (by assumption)).trans (Heap.objs_set_same _ _ _)) | exact (Heap.objs_set_ne _ _ (by assumption)).trans (by assumption)) (Nat.le_of_ble_eq_true rfl)) ?_
    rintro _ _ ⟨rfl, hH⟩
    obtain rfl := hH.symm
    try first | rw [Heap.set_set] | rw [Heap.set_under (by assumption)]
    refine AList.nil ?_
    refine Next.go ?_
    refine AWP.frz (t := 2) rfl (by first | exact hb2 | exact Heap.fresh_set hb2 _) ?_
    refine AWP.ret ?_
    refine Next.rt ?_
    -- ret 0
    refine Ret.go (.cons (.cellI _ _ _ _ rfl Try.isAgg60 Try.sizeOf60 rfl) .nil) _ (Heap.le.refl _) ?_
    refine ⟨?_, rfl⟩
    rw [areaOf, if_pos hc16]
    rfl
  · try simp only [decide_eq_false_iff_not] at hc16
    refine AWP.skip ?_
    refine Next.go ?_
    refine AWP.seq ?_
    -- region 5
    refine AWP.region ?_
    first | (refine AList.p rfl (pure_fieldI Try.underlying50 rfl Try.sizeOf3 (.tmp _ _ rfl)) ?_) | (refine AList.p rfl (pure_field Try.underlying50 rfl Try.sizeOf3 (.tmp _ _ rfl)) ?_)
    first | (refine AList.p rfl (pure_load1 Try.isAgg3 (.tmp _ _ rfl)) ?_) | (refine AList.s rfl (step_load1 Try.isAgg3 (.tmp _ _ rfl) (by first | assumption | exact (by assumption : Heap.le _ _).objs _ _ (by assumption) | exact Heap.objs_set_same _ _ _ | exact (Heap.objs_set_ne _ _ (by assumption)).trans (Heap.objs_set_same _ _ _) | exact (Heap.objs_set_ne _ _ (by assumption)).trans ((Heap.objs_set_ne _ _ (by assumption)).trans (Heap.objs_set_same _ _ _)) | exact (Heap.objs_set_ne _ _ (by assumption)).trans (by assumption)) rfl) ?_; rintro _ _ ⟨rfl, hH⟩; obtain rfl := hH.symm)
    first | (refine AList.p rfl (pure_fieldI Try.underlying50 rfl Try.sizeOf3 (.tmp _ _ rfl)) ?_) | (refine AList.p rfl (pure_field Try.underlying50 rfl Try.sizeOf3 (.tmp _ _ rfl)) ?_)
    first | (refine AList.p rfl (pure_load1 Try.isAgg3 (.tmp _ _ rfl)) ?_) | (refine AList.s rfl (step_load1 Try.isAgg3 (.tmp _ _ rfl) (by first | assumption | exact (by assumption : Heap.le _ _).objs _ _ (by assumption) | exact Heap.objs_set_same _ _ _ | exact (Heap.objs_set_ne _ _ (by assumption)).trans (Heap.objs_set_same _ _ _) | exact (Heap.objs_set_ne _ _ (by assumption)).trans ((Heap.objs_set_ne _ _ (by assumption)).trans (Heap.objs_set_same _ _ _)) | exact (Heap.objs_set_ne _ _ (by assumption)).trans (by assumption)) rfl) ?_; rintro _ _ ⟨rfl, hH⟩; obtain rfl := hH.symm)
    refine AList.p rfl (pure_min2 (.tmp _ _ rfl) (.tmp _ _ rfl)) ?_
    first | (refine AList.p rfl (pure_fieldI Try.underlying50 rfl Try.sizeOf3 (.tmp _ _ rfl)) ?_) | (refine AList.p rfl (pure_field Try.underlying50 rfl Try.sizeOf3 (.tmp _ _ rfl)) ?_)
    first | (refine AList.p rfl (pure_load1 Try.isAgg3 (.tmp _ _ rfl)) ?_) | (refine AList.s rfl (step_load1 Try.isAgg3 (.tmp _ _ rfl) (by first | assumption | exact (by assumption : Heap.le _ _).objs _ _ (by assumption) | exact Heap.objs_set_same _ _ _ | exact (Heap.objs_set_ne _ _ (by assumption)).trans (Heap.objs_set_same _ _ _) | exact (Heap.objs_set_ne _ _ (by assumption)).trans ((Heap.objs_set_ne _ _ (by assumption)).trans (Heap.objs_set_same _ _ _)) | exact (Heap.objs_set_ne _ _ (by assumption)).trans (by assumption)) rfl) ?_; rintro _ _ ⟨rfl, hH⟩; obtain rfl := hH.symm)
    first | (refine AList.p rfl (pure_fieldI Try.underlying50 rfl Try.sizeOf3 (.tmp _ _ rfl)) ?_) | (refine AList.p rfl (pure_field Try.underlying50 rfl Try.sizeOf3 (.tmp _ _ rfl)) ?_)
    first | (refine AList.p rfl (pure_load1 Try.isAgg3 (.tmp _ _ rfl)) ?_) | (refine AList.s rfl (step_load1 Try.isAgg3 (.tmp _ _ rfl) (by first | assumption | exact (by assumption : Heap.le _ _).objs _ _ (by assumption) | exact Heap.objs_set_same _ _ _ | exact (Heap.objs_set_ne _ _ (by assumption)).trans (Heap.objs_set_same _ _ _) | exact (Heap.objs_set_ne _ _ (by assumption)).trans ((Heap.objs_set_ne _ _ (by assumption)).trans (Heap.objs_set_same _ _ _)) | exact (Heap.objs_set_ne _ _ (by assumption)).trans (by assumption)) rfl) ?_; rintro _ _ ⟨rfl, hH⟩; obtain rfl := hH.symm)
    refine AList.p rfl (pure_min2 (.tmp _ _ rfl) (.tmp _ _ rfl)) ?_
    refine AList.p rfl (pure_build [(0, 1), (1, 1), (2, 1), (3, 1)] Try.underlying50 Try.zeroValue50 (zr50) rfl (pl50 _ Try.underlying50) (.cons (.tmp _ _ rfl) (.inl rfl) (.cons (.tmp _ _ rfl) (.inl rfl) .nil)) rfl) ?_
    first | (refine AList.p rfl (pure_fieldI Try.underlying50 rfl Try.sizeOf3 (.tmp _ _ rfl)) ?_) | (refine AList.p rfl (pure_field Try.underlying50 rfl Try.sizeOf3 (.tmp _ _ rfl)) ?_)
    first | (refine AList.p rfl (pure_load1 Try.isAgg3 (.tmp _ _ rfl)) ?_) | (refine AList.s rfl (step_load1 Try.isAgg3 (.tmp _ _ rfl) (by first | assumption | exact (by assumption : Heap.le _ _).objs _ _ (by assumption) | exact Heap.objs_set_same _ _ _ | exact (Heap.objs_set_ne _ _ (by assumption)).trans (Heap.objs_set_same _ _ _) | exact (Heap.objs_set_ne _ _ (by assumption)).trans ((Heap.objs_set_ne _ _ (by assumption)).trans (Heap.objs_set_same _ _ _)) | exact (Heap.objs_set_ne _ _ (by assumption)).trans (by assumption)) rfl) ?_; rintro _ _ ⟨rfl, hH⟩; obtain rfl := hH.symm)
    first | (refine AList.p rfl (pure_fieldI Try.underlying50 rfl Try.sizeOf3 (.tmp _ _ rfl)) ?_) | (refine AList.p rfl (pure_field Try.underlying50 rfl Try.sizeOf3 (.tmp _ _ rfl)) ?_)
    first | (refine AList.p rfl (pure_load1 Try.isAgg3 (.tmp _ _ rfl)) ?_) | (refine AList.s rfl (step_load1 Try.isAgg3 (.tmp _ _ rfl) (by first | assumption | exact (by assumption : Heap.le _ _).objs _ _ (by assumption) | exact Heap.objs_set_same _ _ _ | exact (Heap.objs_set_ne _ _ (by assumption)).trans (Heap.objs_set_same _ _ _) | exact (Heap.objs_set_ne _ _ (by assumption)).trans ((Heap.objs_set_ne _ _ (by assumption)).trans (Heap.objs_set_same _ _ _)) | exact (Heap.objs_set_ne _ _ (by assumption)).trans (by assumption)) rfl) ?_; rintro _ _ ⟨rfl, hH⟩; obtain rfl := hH.symm)
    refine AList.p rfl (pure_max2 (.tmp _ _ rfl) (.tmp _ _ rfl)) ?_
    first | (refine AList.p rfl (pure_fieldI Try.underlying50 rfl Try.sizeOf3 (.tmp _ _ rfl)) ?_) | (refine AList.p rfl (pure_field Try.underlying50 rfl Try.sizeOf3 (.tmp _ _ rfl)) ?_)
    first | (refine AList.p rfl (pure_load1 Try.isAgg3 (.tmp _ _ rfl)) ?_) | (refine AList.s rfl (step_load1 Try.isAgg3 (.tmp _ _ rfl) (by first | assumption | exact (by assumption : Heap.le _ _).objs _ _ (by assumption) | exact Heap.objs_set_same _ _ _ | exact (Heap.objs_set_ne _ _ (by assumption)).trans (Heap.objs_set_same _ _ _) | exact (Heap.objs_set_ne _ _ (by assumption)).trans ((Heap.objs_set_ne _ _ (by assumption)).trans (Heap.objs_set_same _ _ _)) | exact (Heap.objs_set_ne _ _ (by assumption)).trans (by assumption)) rfl) ?_; rintro _ _ ⟨rfl, hH⟩; obtain rfl := hH.symm)
    first | (refine AList.p rfl (pure_fieldI Try.underlying50 rfl Try.sizeOf3 (.tmp _ _ rfl)) ?_) | (refine AList.p rfl (pure_field Try.underlying50 rfl Try.sizeOf3 (.tmp _ _ rfl)) ?_)
    first | (refine AList.p rfl (pure_load1 Try.isAgg3 (.tmp _ _ rfl)) ?_) | (refine AList.s rfl (step_load1 Try.isAgg3 (.tmp _ _ rfl) (by first | assumption | exact (by assumption : Heap.le _ _).objs _ _ (by assumption) | exact Heap.objs_set_same _ _ _ | exact (Heap.objs_set_ne _ _ (by assumption)).trans (Heap.objs_set_same _ _ _) | exact (Heap.objs_set_ne _ _ (by assumption)).trans ((Heap.objs_set_ne _ _ (by assumption)).trans (Heap.objs_set_same _ _ _)) | exact (Heap.objs_set_ne _ _ (by assumption)).trans (by assumption)) rfl) ?_; rintro _ _ ⟨rfl, hH⟩; obtain rfl := hH.symm)
    refine AList.p rfl (pure_max2 (.tmp _ _ rfl) (.tmp _ _ rfl)) ?_
    refine AList.p rfl (pure_build [(0, 1), (1, 1), (2, 1), (3, 1)] Try.underlying50 Try.zeroValue50 (zr50) rfl (pl50 _ Try.underlying50) (.cons (.tmp _ _ rfl) (.inl rfl) (.cons (.tmp _ _ rfl) (.inl rfl) .nil)) rfl) ?_
    refine AList.p rfl (pure_build [(0, 4), (4, 4)] Try.underlying60 Try.zeroValue60 (zr60) rfl (pl60 _ Try.underlying60) (.cons (.tmp _ _ rfl) (.inr ⟨_, rfl⟩) (.cons (.tmp _ _ rfl) (.inr ⟨_, rfl⟩) .nil)) rfl) ?_
    refine AList.s0 (step_store Try.sizeOf60 (.tmp _ _ rfl) (.tmp _ _ rfl) rfl rfl (.inr ⟨_, rfl⟩) (by first | assumption | exact (by assumption : Heap.le _ _).objs _ _ (by assumption) | exact Heap.objs_set_same _ _ _ | exact (Heap.objs_set_ne _ _ (by assumption)).trans (Heap.objs_set_same _ _ _) | exact (Heap.objs_set_ne _ _ (by assumption)).trans ((Heap.objs_set_ne _ _ (by assumption)).trans (Heap.objs_set_same _ _ _)) | exact (Heap.objs_set_ne _ _ (by assumption)).trans (by assumption)) (Nat.le_of_ble_eq_true rfl)) ?_
    rintro _ _ ⟨rfl, hH⟩
    obtain rfl := hH.symm
    try first | rw [Heap.set_set] | rw [Heap.set_under (by assumption)]
    refine AList.nil ?_
    refine Next.go ?_
    refine AWP.frz (t := 2) rfl (by first | exact hb2 | exact Heap.fresh_set hb2 _) ?_
    refine AWP.ret ?_
    -- ret 1
    refine Ret.go (.cons (.cellI _ _ _ _ rfl Try.isAgg60 Try.sizeOf60 rfl) .nil) _ (Heap.le.refl _) ?_
    refine ⟨?_, rfl⟩
    rw [areaOf, if_neg hc16]
    rfl

end Go.Proofs.Ytdibiongjkmlpaa
