/-
  The program's graph: New, Areas, needs, Set.
-/
import Derived.Test.YtdibiongjkmlpaaGg
import Derived.Test.YtdibiongjkmlpaaSk
namespace Go.Proofs.Ytdibiongjkmlpaa
open Go Go.RowKit
abbrev PG := List (Int × List Area)
def pents (M : PG) : List (Int × AV) := M.map fun e => (e.1, .slice 8 (e.2.map Area.av) .shared)
structure PBox (H : Heap) (b m : Nat) (M : PG) : Prop where
  box : H.objs b = some (.box 80 [.map (some m)])
  map : H.objs m = some (.map (ents .i64 (pents M)))
theorem PBox.mono {H H1 : Heap} {b m : Nat} {M : PG} (h : PBox H b m M) (hl : H.le H1) : PBox H1 b m M := ⟨hl.objs _ _ h.box, hl.objs _ _ h.map⟩
def pGet : PG → Int → Option (List Area)
  | [], _ => none
  | (d, y) :: r, c => if d = c then some y else pGet r c
def pAreas (M : PG) (c : Int) : List Area := (pGet M c).getD []
def pPut : PG → Int → List Area → PG
  | [], c, x => [(c, x)]
  | (d, y) :: r, c, x => if d = c then (c, x) :: r else (d, y) :: pPut r c x
def pDel : PG → Int → PG
  | [], _ => []
  | (d, y) :: r, c => if d = c then r else (d, y) :: pDel r c
theorem mget_pents (M : PG) (c : Int) : mget (pents M) c = (pGet M c).map fun l => .slice 8 (l.map Area.av) .shared := by
  induction M with
  | nil => rfl
  | cons e M ih =>
    obtain ⟨d, y⟩ := e
    simp only [pents, List.map_cons, mget, pGet]
    split
    · rfl
    · exact ih
theorem mget_getD (M : PG) (c : Int) : (mget (pents M) c).getD (.slice 8 [] .shared) = .slice 8 ((pAreas M c).map Area.av) .shared := by
  rw [mget_pents, pAreas]
  cases pGet M c <;> rfl
theorem mget_isSome (M : PG) (c : Int) : (mget (pents M) c).isSome = (pGet M c).isSome := by
  rw [mget_pents]; cases pGet M c <;> rfl
theorem mset_pents (M : PG) (c : Int) (l : List Area) : mset (pents M) c (.slice 8 (l.map Area.av) .shared) = pents (pPut M c l) := by
  induction M with
  | nil => rfl
  | cons e M ih =>
    obtain ⟨d, y⟩ := e
    simp only [pents, List.map_cons, mset, pPut] at ih ⊢
    split
    · rfl
    · simp only [List.map_cons]; rw [ih]
theorem mdel_pents (M : PG) (c : Int) : mdel (pents M) c = pents (pDel M c) := by
  induction M with
  | nil => rfl
  | cons e M ih =>
    obtain ⟨d, y⟩ := e
    simp only [pents, List.map_cons, mdel, pDel] at ih ⊢
    split
    · rfl
    · simp only [List.map_cons]; rw [ih]
def pNeeds (M : PG) (k c : Int) : Bool := (pAreas M k).any fun x => Inside (At c) x.a x.b

theorem zr80 : ∀ g, RelCells g [.map none] (Value.cells (Go.Value.agg #[Go.Value.map none])) := fun g => RelL.cells (.cons (.map _) .nil)
theorem pl80 (fs : Array Field) (hfs : Try.prog.underlying 80 = some (.struct fs)) : ∀ (i : Nat) f p, fs[i]? = some f → [(0, 1)][i]? = some p → ∀ w, (sizeOf f.type).run Try.prog w = .ok p.2 w := by
  have e := (Option.some.inj (hfs.symm.trans Try.underlying80))
  cases e
  intro i f p hf hp w
  match i with
  | 0 => cases hf; cases hp; exact Try.sizeOf78 w
  | i + 1 => simp at hp

set_option maxRecDepth 100000 in
theorem pAreas_calls (b m : Nat) (M : PG) (hA : ∀ c, (pAreas M c).length ≤ 10000) (c : Int) (H : Heap) (hp : PBox H b m M) : ACall Try.prog 25 [.ptr (some ⟨b, 0, none⟩), .int .i64 c] H (fun x H' => x = .slice 8 ((pAreas M c).map Area.av) .shared ∧ H' = H) := by
  have hac := hA c
  refine ACall.of_body Try.func25 rfl Try.ntmps25 Try.results25 rfl ?_
  refine AWP.seq ?_
  -- region 0
  refine AWP.region ?_
  refine AList.p rfl (pure_assign (ev_nil (sz := 8) (tl := .full))) ?_
  refine AList.nil ?_
  refine Next.go ?_
  refine AWP.seq ?_
  -- region 1
  refine AWP.region ?_
  refine AList.p rfl (pure_move (.tmp _ _ rfl)) ?_
  first | (refine AList.p rfl (pure_nilCheckI (.tmp _ _ rfl)) ?_) | (refine AList.p rfl (pure_nilCheck (.tmp _ _ rfl)) ?_) | (refine AList.p rfl (pure_nilCheckF (.tmp _ _ rfl)) ?_)
  first | (refine AList.p rfl (pure_fieldI Try.underlying80 rfl Try.sizeOf78 (.tmp _ _ rfl)) ?_) | (refine AList.p rfl (pure_field Try.underlying80 rfl Try.sizeOf78 (.tmp _ _ rfl)) ?_)
  first | (refine AList.p rfl (pure_load1 Try.isAgg78 (.tmp _ _ rfl)) ?_) | (refine AList.s rfl (step_load1 Try.isAgg78 (.tmp _ _ rfl) (by first | exact hp.box | exact (hp.mono (by assumption)).box | assumption | exact (by assumption : Heap.le _ _).objs _ _ (by assumption) | exact Heap.objs_set_same _ _ _ | exact (Heap.objs_set_ne _ _ (by assumption)).trans (Heap.objs_set_same _ _ _) | exact (Heap.objs_set_ne _ _ (by assumption)).trans ((Heap.objs_set_ne _ _ (by assumption)).trans (Heap.objs_set_same _ _ _)) | exact (Heap.objs_set_ne _ _ (by assumption)).trans (by assumption)) rfl) ?_; rintro _ _ ⟨rfl, hH⟩; obtain rfl := hH.symm)
  refine AList.p rfl (pure_move (.tmp _ _ rfl)) ?_
  refine AList.s rfl (step_lookup Try.underlying78 Try.underlying3 Try.zeroValue39 (show ∀ g, RelV g (.slice 8 [] .shared) _ from fun _ => .nilSlice _ _) (.tmp _ _ rfl) (.tmp _ _ rfl) (by first | exact hp.map | exact (hp.mono (by assumption)).map | assumption)) ?_
  rintro _ _ ⟨hv10, hH⟩
  rw [mget_getD] at hv10
  obtain rfl := hv10
  obtain rfl := hH.symm
  refine AList.s rfl (step_call0 Try.call47 (.cons (.tmp _ _ rfl) .nil) (CloneA_calls (pAreas M c) .shared _ (by omega))) ?_
  rintro _ _ ⟨rfl, hH⟩
  obtain rfl := hH.symm
  refine AList.p rfl (pure_assign (.tmp _ _ rfl)) ?_
  refine AList.nil ?_
  refine Next.go ?_
  refine AWP.ret ?_
  -- ret 0
  refine Ret.go (.cons (.tmp _ _ rfl) .nil) _ (Heap.le.refl _) ?_
  exact ⟨rfl, rfl⟩

set_option maxRecDepth 100000 in
theorem pNeeds_calls (b m : Nat) (M : PG) (hA : ∀ c, (pAreas M c).length ≤ 10000) (k c : Int) (hc : -9223372036854775808 ≤ c ∧ c ≤ 9223372036854775807) (H : Heap) (hp : PBox H b m M) : ACall Try.prog 42 [.ptr (some ⟨b, 0, none⟩), .int .i64 k, .int .i64 c] H (fun x H' => x = .bool (pNeeds M k c) ∧ H' = H) := by
  have hac := hA k
  refine ACall.of_body Try.func42 rfl Try.ntmps42 Try.results42 rfl ?_
  refine AWP.seq ?_
  -- region 0
  refine AWP.region ?_
  refine AList.p rfl (pure_assign ev_bool) ?_
  refine AList.nil ?_
  refine Next.go ?_
  refine AWP.seq ?_
  -- region 1
  refine AWP.region ?_
  refine AList.p rfl (pure_move (.tmp _ _ rfl)) ?_
  refine AList.s rfl (step_call0 Try.call50 (.cons (.tmp _ _ rfl) .nil) (At_calls _ (by first | assumption | omega) _)) ?_
  rintro _ _ ⟨rfl, hH⟩
  obtain rfl := hH.symm
  refine AList.s rfl (step_alloc Try.zeroValue50 (zr50)) ?_
  rintro _ _ ⟨b7, hb7, rfl, hH⟩
  obtain rfl := hH.symm
  refine AList.s0 (step_store Try.sizeOf50 (.tmp _ _ rfl) (.tmp _ _ rfl) rfl rfl (.inr ⟨_, rfl⟩) (by first | exact hp.box | exact (hp.mono (by assumption)).box | assumption | exact (by assumption : Heap.le _ _).objs _ _ (by assumption) | exact Heap.objs_set_same _ _ _ | exact (Heap.objs_set_ne _ _ (by assumption)).trans (Heap.objs_set_same _ _ _) | exact (Heap.objs_set_ne _ _ (by assumption)).trans ((Heap.objs_set_ne _ _ (by assumption)).trans (Heap.objs_set_same _ _ _)) | exact (Heap.objs_set_ne _ _ (by assumption)).trans (by assumption)) (Nat.le_of_ble_eq_true rfl)) ?_
  rintro _ _ ⟨rfl, hH⟩
  obtain rfl := hH.symm
  try first | rw [Heap.set_set] | rw [Heap.set_under (by assumption)]
  refine AList.nil ?_
  refine Next.go ?_
  refine AWP.frz (t := 7) rfl (by first | exact hb7 | exact Heap.fresh_set hb7 _) ?_
  refine AWP.seq ?_
  -- region 2
  refine AWP.region ?_
  refine AList.p rfl (pure_move (.tmp _ _ rfl)) ?_
  first | (refine AList.p rfl (pure_nilCheckI (.tmp _ _ rfl)) ?_) | (refine AList.p rfl (pure_nilCheck (.tmp _ _ rfl)) ?_) | (refine AList.p rfl (pure_nilCheckF (.tmp _ _ rfl)) ?_)
  first | (refine AList.p rfl (pure_fieldI Try.underlying80 rfl Try.sizeOf78 (.tmp _ _ rfl)) ?_) | (refine AList.p rfl (pure_field Try.underlying80 rfl Try.sizeOf78 (.tmp _ _ rfl)) ?_)
  first | (refine AList.p rfl (pure_load1 Try.isAgg78 (.tmp _ _ rfl)) ?_) | (refine AList.s rfl (step_load1 Try.isAgg78 (.tmp _ _ rfl) (by first | exact hp.box | exact (hp.mono (by assumption)).box | assumption | exact (by assumption : Heap.le _ _).objs _ _ (by assumption) | exact Heap.objs_set_same _ _ _ | exact (Heap.objs_set_ne _ _ (by assumption)).trans (Heap.objs_set_same _ _ _) | exact (Heap.objs_set_ne _ _ (by assumption)).trans ((Heap.objs_set_ne _ _ (by assumption)).trans (Heap.objs_set_same _ _ _)) | exact (Heap.objs_set_ne _ _ (by assumption)).trans (by assumption)) rfl) ?_; rintro _ _ ⟨rfl, hH⟩; obtain rfl := hH.symm)
  refine AList.p rfl (pure_move (.tmp _ _ rfl)) ?_
  refine AList.s rfl (step_lookup Try.underlying78 Try.underlying3 Try.zeroValue39 (show ∀ g, RelV g (.slice 8 [] .shared) _ from fun _ => .nilSlice _ _) (.tmp _ _ rfl) (.tmp _ _ rfl) (by first | exact hp.map | exact (hp.mono (by assumption)).map | assumption)) ?_
  rintro _ _ ⟨hv15, hH⟩
  rw [mget_getD] at hv15
  obtain rfl := hv15
  obtain rfl := hH.symm
  refine AList.p rfl (pure_func1 (.tmp _ _ rfl)) ?_
  refine AList.s rfl (step_call0 Try.call51 (.cons (.tmp _ _ rfl) (.cons (.tmp _ _ rfl) .nil)) (ContainsFuncA_calls 62 [.iptr (At c).cs] (fun x => Inside (At c) x.a x.b) (pAreas M k) .shared _ (by omega) Try.call62 (fun x _ => needsIn_calls x (At c) _))) ?_
  rintro _ _ ⟨rfl, hH⟩
  obtain rfl := hH.symm
  refine AList.p rfl (pure_assign (.tmp _ _ rfl)) ?_
  refine AList.nil ?_
  refine Next.go ?_
  refine AWP.ret ?_
  -- ret 0
  refine Ret.go (.cons (.tmp _ _ rfl) .nil) _ (Heap.le.refl _) ?_
  exact ⟨rfl, rfl⟩

def pErr (M : PG) (at_ : Int) (l : List Area) : Int :=
  if (At at_).ok = false then 14 else if l.any (fun x => !x.ok) = true then 1 else if l.length > 500 ∨ (l.length > 0 ∧ pGet M at_ = none ∧ M.length ≥ 2000) then 5 else 0
def pSet (M : PG) (at_ : Int) (l : List Area) : PG := if pErr M at_ l = 0 then (if l.length = 0 then pDel M at_ else pPut M at_ l) else M
theorem PBox.same {H : Heap} {b m : Nat} {M : PG} (h : PBox H b m M) : H.set m (.map (ents .i64 (pents M))) = H := by
  cases H with
  | mk objs toks =>
    simp only [Heap.set, Heap.mk.injEq, and_true]
    funext k
    split
    · rename_i e; subst e; exact h.map.symm
    · rfl
theorem pents_len (M : PG) : (pents M).length = M.length := by simp [pents]

set_option maxRecDepth 100000 in
theorem pSet_calls (b m : Nat) (M : PG) (hA : ∀ c, (pAreas M c).length ≤ 10000) (at_ : Int) (hc : -9223372036854775808 ≤ at_ ∧ at_ ≤ 9223372036854775807) (l : List Area) (tl : Tail) (hl : l.length ≤ 10000) (H : Heap) (hp : PBox H b m M) : ACall Try.prog 28 [.ptr (some ⟨b, 0, none⟩), .int .i64 at_, .slice 8 (l.map Area.av) tl] H (fun x H' => x = .int .i64 (pErr M at_ l) ∧ H' = H.set m (.map (ents .i64 (pents (pSet M at_ l))))) := by
  refine ACall.of_body Try.func28 rfl Try.ntmps28 Try.results28 rfl ?_
  refine AWP.seq ?_
  -- region 0
  refine AWP.region ?_
  refine AList.p rfl (pure_assign ev_int) ?_
  refine AList.nil ?_
  refine Next.go ?_
  refine AWP.seq ?_
  refine AWP.seq ?_
  -- region 1
  refine AWP.region ?_
  refine AList.p rfl (pure_move (.tmp _ _ rfl)) ?_
  first | (refine AList.p rfl (pure_nilCheckI (.tmp _ _ rfl)) ?_) | (refine AList.p rfl (pure_nilCheck (.tmp _ _ rfl)) ?_) | (refine AList.p rfl (pure_nilCheckF (.tmp _ _ rfl)) ?_)
  first | (refine AList.p rfl (pure_fieldI Try.underlying80 rfl Try.sizeOf78 (.tmp _ _ rfl)) ?_) | (refine AList.p rfl (pure_field Try.underlying80 rfl Try.sizeOf78 (.tmp _ _ rfl)) ?_)
  first | (refine AList.p rfl (pure_load1 Try.isAgg78 (.tmp _ _ rfl)) ?_) | (refine AList.s rfl (step_load1 Try.isAgg78 (.tmp _ _ rfl) (by first | exact hp.box | exact (hp.mono (by assumption)).box | assumption | exact (by assumption : Heap.le _ _).objs _ _ (by assumption) | exact Heap.objs_set_same _ _ _ | exact (Heap.objs_set_ne _ _ (by assumption)).trans (Heap.objs_set_same _ _ _) | exact (Heap.objs_set_ne _ _ (by assumption)).trans ((Heap.objs_set_ne _ _ (by assumption)).trans (Heap.objs_set_same _ _ _)) | exact (Heap.objs_set_ne _ _ (by assumption)).trans (by assumption)) rfl) ?_; rintro _ _ ⟨rfl, hH⟩; obtain rfl := hH.symm)
  refine AList.p rfl (pure_move (.tmp _ _ rfl)) ?_
  refine AList.s rfl (step_lookup2 Try.underlying78 Try.underlying3 Try.zeroValue39 (show ∀ g, RelV g (.slice 8 [] .shared) _ from fun _ => .nilSlice _ _) (.tmp _ _ rfl) (.tmp _ _ rfl) (by first | exact hp.map | exact (hp.mono (by assumption)).map | assumption)) ?_
  rintro _ _ ⟨rfl, hH⟩
  obtain rfl := hH.symm
  refine AList.p rfl (pure_move (.tmp _ _ rfl)) ?_
  refine AList.p rfl (pure_extract (.tmp _ _ rfl) rfl) ?_
  refine AList.p rfl (pure_extract (.tmp _ _ rfl) rfl) ?_
  refine AList.p rfl (pure_assign (.tmp _ _ rfl)) ?_
  refine AList.p rfl (pure_assign (.tmp _ _ rfl)) ?_
  refine AList.nil ?_
  refine Next.go ?_
  refine AWP.block ?_
  refine AWP.seq ?_
  -- region 3
  refine AWP.region ?_
  refine AList.p rfl (pure_move (.tmp _ _ rfl)) ?_
  refine AList.s rfl (step_call0 Try.call50 (.cons (.tmp _ _ rfl) .nil) (At_calls _ (by first | assumption | omega) _)) ?_
  rintro _ _ ⟨rfl, hH⟩
  obtain rfl := hH.symm
  refine AList.s rfl (step_call0 Try.call49 (.cons (.tmp _ _ rfl) .nil) (Right_calls ⟨_, _, _, _⟩ _)) ?_
  rintro _ _ ⟨rfl, hH⟩
  obtain rfl := hH.symm
  refine AList.p rfl (pure_not (.tmp _ _ rfl)) ?_
  refine AList.p rfl (pure_assign (.tmp _ _ rfl)) ?_
  refine AList.nil ?_
  refine Next.go ?_
  -- c0
  refine AWP.cond (.tmp _ _ rfl) (fun hc25 => ?_) (fun hc25 => ?_)
  · try simp only [Bool.not_eq_true'] at hc25
    refine AWP.seq ?_
    -- region 4
    refine AWP.region ?_
    refine AList.p rfl (pure_assign ev_int) ?_
    refine AList.nil ?_
    refine Next.go ?_
    refine AWP.ret ?_
    refine Block.rt ?_
    refine Next.rt ?_
    -- ret 0
    refine Ret.go (.cons (.tmp _ _ rfl) .nil) _ (Heap.le.refl _) ?_
    have he : pErr M at_ l = 14 := by rw [pErr, if_pos hc25]
    refine ⟨by rw [he]; rfl, ?_⟩
    rw [pSet, he, if_neg (by decide)]
    exact hp.same.symm
  · try simp only [Bool.not_eq_false'] at hc25
    refine AWP.seq ?_
    -- region 5
    refine AWP.region ?_
    refine AList.p rfl (pure_move (.tmp _ _ rfl)) ?_
    refine AList.s rfl (step_call0 Try.call51 (.cons (.tmp _ _ rfl) (.cons (.func _) .nil)) (ContainsFuncA_calls 52 [] (fun x => !x.ok) l tl _ (by omega) Try.call52 (fun x _ => SetNot_calls x _))) ?_
    rintro _ _ ⟨rfl, hH⟩
    obtain rfl := hH.symm
    refine AList.p rfl (pure_assign (.tmp _ _ rfl)) ?_
    refine AList.nil ?_
    refine Next.go ?_
    -- c1
    refine AWP.cond (.tmp _ _ rfl) (fun hc30 => ?_) (fun hc30 => ?_)
    · try simp only [decide_eq_true_eq, decide_eq_false_iff_not, Bool.not_eq_true', Bool.not_eq_false', Int.not_lt, Int.not_le, ne_eq, Decidable.not_not] at hc30
      refine AWP.seq ?_
      -- region 6
      refine AWP.region ?_
      refine AList.p rfl (pure_assign ev_int) ?_
      refine AList.nil ?_
      refine Next.go ?_
      refine AWP.ret ?_
      refine Block.rt ?_
      refine Next.rt ?_
      -- ret 1
      refine Ret.go (.cons (.tmp _ _ rfl) .nil) _ (Heap.le.refl _) ?_
      have he : pErr M at_ l = 1 := by rw [pErr, if_neg (by simp [hc25]), if_pos hc30]
      refine ⟨by rw [he]; rfl, ?_⟩
      rw [pSet, he, if_neg (by decide)]
      exact hp.same.symm
    · try simp only [decide_eq_true_eq, decide_eq_false_iff_not, Bool.not_eq_true', Bool.not_eq_false', Int.not_lt, Int.not_le, ne_eq, Decidable.not_not] at hc30
      refine AWP.seqTo 33 (.bool (decide (l.length > 500 ∨ (l.length > 0 ∧ pGet M at_ = none ∧ M.length ≥ 2000)))) [0, 1, 2, 6, 8, 25, 30] ?_ ?_
      · -- region 7
        refine AWP.region ?_
        refine AList.p rfl (pure_move (.tmp _ _ rfl)) ?_
        first | (refine AList.p rfl (pure_lenL Try.underlying39 (.tmp _ _ rfl)) ?_) | (refine AList.p rfl (pure_lenS Try.underlying39 (.tmp _ _ rfl)) ?_) | (refine AList.p rfl (pure_lenM Try.underlying39 (.tmp _ _ rfl)) ?_)
        refine AList.p rfl (pure_gtr (.tmp _ _ rfl) ev_int) ?_
        refine AList.p rfl (pure_move (.tmp _ _ rfl)) ?_
        -- the guard in slot 37
        refine bool_casesL (t := 37) rfl (fun hg37 => ?_) (fun hg37 => ?_)
        · have hh37 := hg37; try simp only [decide_eq_true_eq] at hh37
          refine AList.gn rfl rfl rfl (by first | rfl | assumption) ?_
          refine AList.gn rfl rfl rfl (by first | rfl | assumption) ?_
          refine AList.gn rfl rfl rfl (by first | rfl | assumption) ?_
          refine AList.gn rfl rfl rfl (by first | rfl | assumption) ?_
          refine AList.gdead rfl rfl rfl ?_
          refine AList.gdead rfl rfl rfl ?_
          refine AList.gn rfl rfl rfl (by first | rfl | assumption) ?_
          refine AList.gn rfl rfl rfl (by first | rfl | assumption) ?_
          refine AList.gdead rfl rfl rfl ?_
          refine AList.gdead rfl rfl rfl ?_
          refine AList.gdead rfl rfl rfl ?_
          refine AList.gdead rfl rfl rfl ?_
          refine AList.gdead rfl rfl rfl ?_
          refine AList.gdead rfl rfl rfl ?_
          refine AList.gn rfl rfl rfl (by first | rfl | assumption) ?_
          refine AList.p rfl (pure_pickT (.tmp _ _ rfl) (by first | rfl | assumption) ev_bool) ?_
          refine AList.p rfl (pure_assign (.tmp _ _ rfl)) ?_
          refine AList.nil ?_
          exact ⟨rfl, sub_b rfl (by first | rfl | (have hm1 := mget_isSome M at_; have hm2 := pents_len M; cases hpg : pGet M at_ <;> simp [hpg] at hm1 <;> simp_all <;> omega) | (have hm1 := mget_isSome M at_; have hm2 := pents_len M; have hpg : pGet M at_ = none := (by rw [hm1] at hg45; simpa using hg45); have hgg := of_decide_eq_true hg41; refine decide_eq_decide.2 ?_; simp only [hpg, true_and, hm2]; omega) | (simp [*]; done) | simp_all) (sub_c rfl (sub_c rfl (sub_c rfl (sub_c rfl (sub_c rfl (sub_c rfl (sub_c rfl sub_n))))))), rfl⟩
        · have hh37 := hg37; try simp only [decide_eq_false_iff_not, Int.not_lt] at hh37
          refine AList.gp rfl rfl rfl (by first | rfl | assumption) (pure_move (.tmp _ _ rfl)) ?_
          first | (refine AList.gp rfl rfl rfl (by first | rfl | assumption) (pure_lenL Try.underlying39 (.tmp _ _ rfl)) ?_) | (refine AList.gp rfl rfl rfl (by first | rfl | assumption) (pure_lenS Try.underlying39 (.tmp _ _ rfl)) ?_) | (refine AList.gp rfl rfl rfl (by first | rfl | assumption) (pure_lenM Try.underlying39 (.tmp _ _ rfl)) ?_)
          refine AList.gp rfl rfl rfl (by first | rfl | assumption) (pure_gtr (.tmp _ _ rfl) ev_int) ?_
          refine AList.gp rfl rfl rfl (by first | rfl | assumption) (pure_move (.tmp _ _ rfl)) ?_
          -- the guard in slot 41
          refine bool_casesL (t := 41) rfl (fun hg41 => ?_) (fun hg41 => ?_)
          · have hh41 := hg41; try simp only [decide_eq_true_eq] at hh41
            refine AList.gp rfl rfl rfl (by first | rfl | assumption) (pure_move (.tmp _ _ rfl)) ?_
            refine AList.gp rfl rfl rfl (by first | rfl | assumption) (pure_not (.tmp _ _ rfl)) ?_
            refine AList.gp rfl rfl rfl (by first | rfl | assumption) (pure_pickT (.tmp _ _ rfl) (by first | rfl | assumption) (.tmp _ _ rfl)) ?_
            refine AList.gp rfl rfl rfl (by first | rfl | assumption) (pure_move (.tmp _ _ rfl)) ?_
            -- the guard in slot 45
            refine bool_casesL (t := 45) rfl (fun hg45 => ?_) (fun hg45 => ?_)
            · have hh45 := hg45; try simp only [Bool.not_eq_true'] at hh45
              refine AList.gp rfl rfl rfl (by first | rfl | assumption) (pure_move (.tmp _ _ rfl)) ?_
              first | (refine AList.gp rfl rfl rfl (by first | rfl | assumption) (pure_nilCheckI (.tmp _ _ rfl)) ?_) | (refine AList.gp rfl rfl rfl (by first | rfl | assumption) (pure_nilCheck (.tmp _ _ rfl)) ?_) | (refine AList.gp rfl rfl rfl (by first | rfl | assumption) (pure_nilCheckF (.tmp _ _ rfl)) ?_)
              first | (refine AList.gp rfl rfl rfl (by first | rfl | assumption) (pure_fieldI Try.underlying80 rfl Try.sizeOf78 (.tmp _ _ rfl)) ?_) | (refine AList.gp rfl rfl rfl (by first | rfl | assumption) (pure_field Try.underlying80 rfl Try.sizeOf78 (.tmp _ _ rfl)) ?_)
              first | (refine AList.gp rfl rfl rfl (by first | rfl | assumption) (pure_load1 Try.isAgg78 (.tmp _ _ rfl)) ?_) | (refine AList.gs rfl rfl rfl (by first | rfl | assumption) (step_load1 Try.isAgg78 (.tmp _ _ rfl) (by first | exact hp.box | exact (hp.mono (by assumption)).box | assumption | exact (by assumption : Heap.le _ _).objs _ _ (by assumption) | exact Heap.objs_set_same _ _ _ | exact (Heap.objs_set_ne _ _ (by assumption)).trans (Heap.objs_set_same _ _ _) | exact (Heap.objs_set_ne _ _ (by assumption)).trans ((Heap.objs_set_ne _ _ (by assumption)).trans (Heap.objs_set_same _ _ _)) | exact (Heap.objs_set_ne _ _ (by assumption)).trans (by assumption)) rfl) ?_; rintro _ _ ⟨rfl, hH⟩; obtain rfl := hH.symm)
              refine AList.gs rfl rfl rfl (by first | rfl | assumption) (step_lenMap Try.underlying78 (.tmp _ _ rfl) (by first | exact hp.map | exact (hp.mono (by assumption)).map | assumption)) ?_
              rintro _ _ ⟨rfl, hH⟩
              obtain rfl := hH.symm
              refine AList.gp rfl rfl rfl (by first | rfl | assumption) (pure_geq (.tmp _ _ rfl) ev_int) ?_
              refine AList.gp rfl rfl rfl (by first | rfl | assumption) (pure_pickT (.tmp _ _ rfl) (by first | rfl | assumption) (.tmp _ _ rfl)) ?_
              refine AList.p rfl (pure_pickF (.tmp _ _ rfl) (by first | rfl | assumption) (.tmp _ _ rfl)) ?_
              refine AList.p rfl (pure_assign (.tmp _ _ rfl)) ?_
              refine AList.nil ?_
              exact ⟨rfl, sub_b rfl (by first | rfl | (have hm1 := mget_isSome M at_; have hm2 := pents_len M; cases hpg : pGet M at_ <;> simp [hpg] at hm1 <;> simp_all <;> omega) | (have hm1 := mget_isSome M at_; have hm2 := pents_len M; have hpg : pGet M at_ = none := (by rw [hm1] at hg45; simpa using hg45); have hgg := of_decide_eq_true hg41; refine decide_eq_decide.2 ?_; simp only [hpg, true_and, hm2]; omega) | (simp [*]; done) | simp_all) (sub_c rfl (sub_c rfl (sub_c rfl (sub_c rfl (sub_c rfl (sub_c rfl (sub_c rfl sub_n))))))), rfl⟩
            · have hh45 := hg45; try simp only [Bool.not_eq_false'] at hh45
              refine AList.gn rfl rfl rfl (by first | rfl | assumption) ?_
              refine AList.gn rfl rfl rfl (by first | rfl | assumption) ?_
              refine AList.gn rfl rfl rfl (by first | rfl | assumption) ?_
              refine AList.gn rfl rfl rfl (by first | rfl | assumption) ?_
              refine AList.gn rfl rfl rfl (by first | rfl | assumption) ?_
              refine AList.gn rfl rfl rfl (by first | rfl | assumption) ?_
              refine AList.gp rfl rfl rfl (by first | rfl | assumption) (pure_pickF (.tmp _ _ rfl) (by first | rfl | assumption) ev_bool) ?_
              refine AList.p rfl (pure_pickF (.tmp _ _ rfl) (by first | rfl | assumption) (.tmp _ _ rfl)) ?_
              refine AList.p rfl (pure_assign (.tmp _ _ rfl)) ?_
              refine AList.nil ?_
              exact ⟨rfl, sub_b rfl (by first | rfl | (have hm1 := mget_isSome M at_; have hm2 := pents_len M; cases hpg : pGet M at_ <;> simp [hpg] at hm1 <;> simp_all <;> omega) | (have hm1 := mget_isSome M at_; have hm2 := pents_len M; have hpg : pGet M at_ = none := (by rw [hm1] at hg45; simpa using hg45); have hgg := of_decide_eq_true hg41; refine decide_eq_decide.2 ?_; simp only [hpg, true_and, hm2]; omega) | (simp [*]; done) | simp_all) (sub_c rfl (sub_c rfl (sub_c rfl (sub_c rfl (sub_c rfl (sub_c rfl (sub_c rfl sub_n))))))), rfl⟩
          · have hh41 := hg41; try simp only [decide_eq_false_iff_not, Int.not_lt] at hh41
            refine AList.gn rfl rfl rfl (by first | rfl | assumption) ?_
            refine AList.gn rfl rfl rfl (by first | rfl | assumption) ?_
            refine AList.gp rfl rfl rfl (by first | rfl | assumption) (pure_pickF (.tmp _ _ rfl) (by first | rfl | assumption) ev_bool) ?_
            refine AList.gp rfl rfl rfl (by first | rfl | assumption) (pure_move (.tmp _ _ rfl)) ?_
            refine AList.gn rfl rfl rfl (by first | rfl | assumption) ?_
            refine AList.gn rfl rfl rfl (by first | rfl | assumption) ?_
            refine AList.gn rfl rfl rfl (by first | rfl | assumption) ?_
            refine AList.gn rfl rfl rfl (by first | rfl | assumption) ?_
            refine AList.gn rfl rfl rfl (by first | rfl | assumption) ?_
            refine AList.gn rfl rfl rfl (by first | rfl | assumption) ?_
            refine AList.gp rfl rfl rfl (by first | rfl | assumption) (pure_pickF (.tmp _ _ rfl) (by first | rfl | assumption) ev_bool) ?_
            refine AList.p rfl (pure_pickF (.tmp _ _ rfl) (by first | rfl | assumption) (.tmp _ _ rfl)) ?_
            refine AList.p rfl (pure_assign (.tmp _ _ rfl)) ?_
            refine AList.nil ?_
            exact ⟨rfl, sub_b rfl (by first | rfl | (have hm1 := mget_isSome M at_; have hm2 := pents_len M; cases hpg : pGet M at_ <;> simp [hpg] at hm1 <;> simp_all <;> omega) | (have hm1 := mget_isSome M at_; have hm2 := pents_len M; have hpg : pGet M at_ = none := (by rw [hm1] at hg45; simpa using hg45); have hgg := of_decide_eq_true hg41; refine decide_eq_decide.2 ?_; simp only [hpg, true_and, hm2]; omega) | (simp [*]; done) | simp_all) (sub_c rfl (sub_c rfl (sub_c rfl (sub_c rfl (sub_c rfl (sub_c rfl (sub_c rfl sub_n))))))), rfl⟩
      · -- c2
        refine AWP.cond (.tmp _ _ rfl) (fun hc33 => ?_) (fun hc33 => ?_)
        · try simp only [decide_eq_true_eq] at hc33
          refine AWP.seq ?_
          -- region 8
          refine AWP.region ?_
          refine AList.p rfl (pure_assign ev_int) ?_
          refine AList.nil ?_
          refine Next.go ?_
          refine AWP.ret ?_
          refine Block.rt ?_
          refine Next.rt ?_
          -- ret 2
          refine Ret.go (.cons (.tmp _ _ rfl) .nil) _ (Heap.le.refl _) ?_
          have he : pErr M at_ l = 5 := by rw [pErr, if_neg (by simp [hc25]), if_neg (by simp [hc30]), if_pos hc33]
          refine ⟨by rw [he]; rfl, ?_⟩
          rw [pSet, he, if_neg (by decide)]
          exact hp.same.symm
        · try simp only [decide_eq_false_iff_not] at hc33
          refine AWP.seq ?_
          -- region 9
          refine AWP.region ?_
          refine AList.p rfl (pure_move (.tmp _ _ rfl)) ?_
          first | (refine AList.p rfl (pure_lenL Try.underlying39 (.tmp _ _ rfl)) ?_) | (refine AList.p rfl (pure_lenS Try.underlying39 (.tmp _ _ rfl)) ?_) | (refine AList.p rfl (pure_lenM Try.underlying39 (.tmp _ _ rfl)) ?_)
          refine AList.p rfl (pure_eql (.tmp _ _ rfl) ev_int) ?_
          refine AList.p rfl (pure_assign (.tmp _ _ rfl)) ?_
          refine AList.nil ?_
          refine Next.go ?_
          -- c3
          refine AWP.cond (.tmp _ _ rfl) (fun hc54 => ?_) (fun hc54 => ?_)
          · try simp only [decide_eq_true_eq] at hc54
            -- region 10
            refine AWP.region ?_
            refine AList.p rfl (pure_move (.tmp _ _ rfl)) ?_
            first | (refine AList.p rfl (pure_nilCheckI (.tmp _ _ rfl)) ?_) | (refine AList.p rfl (pure_nilCheck (.tmp _ _ rfl)) ?_) | (refine AList.p rfl (pure_nilCheckF (.tmp _ _ rfl)) ?_)
            first | (refine AList.p rfl (pure_fieldI Try.underlying80 rfl Try.sizeOf78 (.tmp _ _ rfl)) ?_) | (refine AList.p rfl (pure_field Try.underlying80 rfl Try.sizeOf78 (.tmp _ _ rfl)) ?_)
            first | (refine AList.p rfl (pure_load1 Try.isAgg78 (.tmp _ _ rfl)) ?_) | (refine AList.s rfl (step_load1 Try.isAgg78 (.tmp _ _ rfl) (by first | exact hp.box | exact (hp.mono (by assumption)).box | assumption | exact (by assumption : Heap.le _ _).objs _ _ (by assumption) | exact Heap.objs_set_same _ _ _ | exact (Heap.objs_set_ne _ _ (by assumption)).trans (Heap.objs_set_same _ _ _) | exact (Heap.objs_set_ne _ _ (by assumption)).trans ((Heap.objs_set_ne _ _ (by assumption)).trans (Heap.objs_set_same _ _ _)) | exact (Heap.objs_set_ne _ _ (by assumption)).trans (by assumption)) rfl) ?_; rintro _ _ ⟨rfl, hH⟩; obtain rfl := hH.symm)
            refine AList.p rfl (pure_move (.tmp _ _ rfl)) ?_
            refine AList.s0 (step_delete Try.underlying78 Try.underlying3 (.tmp _ _ rfl) (.tmp _ _ rfl) (by first | exact hp.map | exact (hp.mono (by assumption)).map | assumption)) ?_
            rintro _ _ hH
            obtain rfl := hH.symm
            refine AList.nil ?_
            refine Block.go ?_
            refine Next.go ?_
            refine AWP.seq ?_
            -- region 11
            refine AWP.region ?_
            refine AList.p rfl (pure_assign ev_int) ?_
            refine AList.nil ?_
            refine Next.go ?_
            refine AWP.ret ?_
            -- ret 3
            refine Ret.go (.cons (.tmp _ _ rfl) .nil) _ (Heap.le.refl _) ?_
            have he : pErr M at_ l = 0 := by rw [pErr, if_neg (by simp [hc25]), if_neg (by simp [hc30]), if_neg hc33]
            refine ⟨by rw [he]; rfl, ?_⟩
            rw [pSet, if_pos he]
            first | (rw [if_pos (by omega), mdel_pents]) | (rw [if_neg (by omega), mset_pents])
          · try simp only [decide_eq_false_iff_not] at hc54
            -- region 2
            refine AWP.draw [(0, true), (1, true), (2, true), (4, true), (5, true), (6, true), (3, false), (7, false)] rfl (by decide +kernel) ?_
            refine APlan.p rfl rfl (pure_move (.tmp _ _ rfl)) ?_
            first | (refine APlan.p rfl rfl (pure_nilCheckI (.tmp _ _ rfl)) ?_) | (refine APlan.p rfl rfl (pure_nilCheck (.tmp _ _ rfl)) ?_) | (refine APlan.p rfl rfl (pure_nilCheckF (.tmp _ _ rfl)) ?_)
            first | (refine APlan.p rfl rfl (pure_fieldI Try.underlying80 rfl Try.sizeOf78 (.tmp _ _ rfl)) ?_) | (refine APlan.p rfl rfl (pure_field Try.underlying80 rfl Try.sizeOf78 (.tmp _ _ rfl)) ?_)
            refine APlan.p rfl rfl (pure_move (.tmp _ _ rfl)) ?_
            refine APlan.p rfl rfl (pure_move (.tmp _ _ rfl)) ?_
            refine APlan.f rfl rfl (fun _ => step_call0 Try.call47 (.cons (.tmp _ _ rfl) .nil) (CloneA_calls _ _ _ (by first | assumption | omega))) ?_
            first | (refine APlan.p rfl rfl (pure_load1 Try.isAgg78 (.tmp _ _ rfl)) ?_) | (refine APlan.s rfl rfl (step_load1 Try.isAgg78 (.tmp _ _ rfl) (by first | exact hp.box | exact (hp.mono (by assumption)).box | assumption | exact (by assumption : Heap.le _ _).objs _ _ (by assumption) | exact Heap.objs_set_same _ _ _ | exact (Heap.objs_set_ne _ _ (by assumption)).trans (Heap.objs_set_same _ _ _) | exact (Heap.objs_set_ne _ _ (by assumption)).trans ((Heap.objs_set_ne _ _ (by assumption)).trans (Heap.objs_set_same _ _ _)) | exact (Heap.objs_set_ne _ _ (by assumption)).trans (by assumption)) rfl) ?_; rintro _ _ ⟨rfl, hH⟩; obtain rfl := hH.symm)
            refine APlan.s0 rfl (step_mapUpdate Try.underlying78 Try.underlying3 (.tmp _ _ rfl) (.tmp _ _ rfl) (.tmp _ _ rfl) (by first | exact hp.map | exact (hp.mono (by assumption)).map | assumption)) ?_
            rintro _ _ ⟨rfl, hH⟩
            obtain rfl := hH.symm
            refine APlan.nil ?_
            refine Block.go ?_
            refine Next.go ?_
            refine AWP.seq ?_
            -- region 11
            refine AWP.region ?_
            refine AList.p rfl (pure_assign ev_int) ?_
            refine AList.nil ?_
            refine Next.go ?_
            refine AWP.ret ?_
            -- ret 4
            refine Ret.go (.cons (.tmp _ _ rfl) .nil) _ (Heap.le.refl _) ?_
            have he : pErr M at_ l = 0 := by rw [pErr, if_neg (by simp [hc25]), if_neg (by simp [hc30]), if_neg hc33]
            refine ⟨by rw [he]; rfl, ?_⟩
            rw [pSet, if_pos he]
            first | (rw [if_pos (by omega), mdel_pents]) | (rw [if_neg (by omega), mset_pents])

end Go.Proofs.Ytdibiongjkmlpaa
