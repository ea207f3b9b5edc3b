/-
  The law's shown: the chapter's examples.
-/
import Derived.Test.YtdibiongjkmlpaaGq
namespace Go.Proofs.Ytdibiongjkmlpaa
open Go Go.RowKit
/-- All but one block stay what they are. -/
structure Turned (m : Nat) (H H' : Heap) : Prop where
  objs : ∀ k, k ≠ m → H'.objs k = H.objs k
  toks : H'.toks = H.toks
theorem Turned.le {m : Nat} {H0 H H' : Heap} (h : Turned m H H') (hl : H0.le H) (hm : H0.objs m = none) : H0.le H' :=
  ⟨fun k x hk => by rw [h.objs k (by rintro rfl; rw [hm] at hk; cases hk)]; exact hl.objs _ _ hk, fun t ht => by rw [h.toks]; exact hl.toks t ht⟩
theorem Turned.set (m : Nat) (H : Heap) (o : AObj) : Turned m H (H.set m o) := ⟨fun _ hk => Heap.objs_set_ne _ _ hk, rfl⟩
theorem PBox.turned {H H' : Heap} {b m k : Nat} {M : PG} (h : PBox H b m M) (ht : Turned k H H') (h1 : b ≠ k) (h2 : m ≠ k) : PBox H' b m M := ⟨(ht.objs _ h1).trans h.box, (ht.objs _ h2).trans h.map⟩
theorem new_c (H : Heap) : ACall Try.prog 29 [] H fun x H' => ∃ b m, x = .ptr (some ⟨b, 0, none⟩) ∧ H.le H' ∧ H.objs b = none ∧ H.objs m = none ∧ PBox H' b m [] :=
  (New_calls H).mono fun _ _ ⟨b, m, hm, hbm, hb, hx, hH⟩ => by
    subst hH
    exact ⟨b, m, hx, Heap.le_set_new (Heap.le_set_new (Heap.le.refl H) hm _) hb _, hb, hm, Heap.objs_set_same _ _ _, (Heap.objs_set_ne _ _ hbm.symm).trans (Heap.objs_set_same _ _ _)⟩
theorem pAreas_all {M : PG} {n : Nat} (h : M.all (fun e => decide (e.2.length ≤ n)) = true) (c : Int) : (pAreas M c).length ≤ n := by
  unfold pAreas
  induction M with
  | nil => simp [pGet]
  | cons e M ih =>
    obtain ⟨d, y⟩ := e
    simp only [List.all_cons, Bool.and_eq_true, decide_eq_true_eq] at h
    simp only [pGet]
    split
    · exact h.1
    · exact ih h.2
theorem set_c (b m : Nat) (M : PG) (hA : M.all (fun e => decide (e.2.length ≤ 10000)) = true) (at_ : Int) (hc : In64 at_) (l : List Area) (tl : Tail) (hl : l.length ≤ 10000) (H : Heap) (hp : PBox H b m M) (e : Int) (he : pErr M at_ l = e) (M' : PG) (hM : pSet M at_ l = M') :
    ACall Try.prog 28 [.ptr (some ⟨b, 0, none⟩), .int .i64 at_, .slice 8 (l.map Area.av) tl] H fun x H' => x = .int .i64 e ∧ PBox H' b m M' ∧ Turned m H H' :=
  (pSet_calls b m M (pAreas_all hA) at_ hc l tl hl H hp).mono fun _ _ ⟨hx, hH⟩ => by
    subst hH; subst he; subst hM
    exact ⟨hx, hp.set _, Turned.set _ _ _⟩
theorem same_t (a b : List Int) (ta tb : Tail) (ha : a.length ≤ 100000) (H : Heap) (h : a = b) : ACall Try.prog 12 [.slice 1 (a.map (.int .i64)) ta, .slice 1 (b.map (.int .i64)) tb] H fun x H' => x = .bool true ∧ H' = H :=
  (same_calls a b ta tb (by unfold maxLen; omega) H).mono fun _ _ ⟨hx, hH⟩ => ⟨by rw [hx, decide_eq_true h], hH⟩
/-- Who hangs on cells, where all are known. -/
theorem sorted_is {needs : Int → Int → Bool} {cells l inn : List Int} (hn : inn.Nodup) (h : ∀ c, c ∈ inn ↔ Hangs needs cells l c) (L1 L : List Int) (hL : Up L) (h1 : (L1.all fun x => decide (x ∈ cells) && l.any (needs x)) = true)
    (h2 : (L.all fun x => decide (x ∈ cells) && (l ++ L1).any (needs x)) = true) (h3 : (cells.all fun k => !((l ++ L).any (needs k)) || decide (k ∈ L)) = true) : inn.mergeSort (fun x y => decide (x ≤ y)) = L := by
  have hL1 : ∀ x, x ∈ L1 → Hangs needs cells l x := fun x hx => by
    have := List.all_eq_true.1 h1 x hx
    simp only [Bool.and_eq_true, decide_eq_true_eq] at this
    obtain ⟨c, hc, hcn⟩ := List.any_eq_true.1 this.2
    exact .one this.1 hc hcn
  have hLh : ∀ x, x ∈ L → Hangs needs cells l x := fun x hx => by
    have := List.all_eq_true.1 h2 x hx
    simp only [Bool.and_eq_true, decide_eq_true_eq] at this
    obtain ⟨c, hc, hcn⟩ := List.any_eq_true.1 this.2
    rcases List.mem_append.1 hc with hc | hc
    · exact .one this.1 hc hcn
    · exact .more this.1 (hL1 c hc) hcn
  have hcl : ∀ k, k ∈ cells → ∀ c, c ∈ l ++ L → needs k c = true → k ∈ L := fun k hk c hc hcn => by
    have := List.all_eq_true.1 h3 k hk
    simp only [Bool.or_eq_true, Bool.not_eq_true', decide_eq_true_eq] at this
    rcases this with h | h
    · have := List.any_eq_false.1 h c hc; rw [hcn] at this; exact absurd rfl this
    · exact h
  refine (sorted_up hn).ext hL fun x => ?_
  rw [List.mem_mergeSort, h x]
  constructor
  · intro hx
    induction hx with
    | one hk hc hcn => exact hcl _ hk _ (List.mem_append_left _ hc) hcn
    | more hk _ hcn ih => exact hcl _ hk _ (List.mem_append_right _ ih) hcn
  · exact hLh x
theorem cells_is {M : PG} (L : List Int) (hn : (M.map (·.1)).Nodup) (hL : Up L) (h1 : (L.all fun x => decide (x ∈ M.map (·.1))) = true) (h2 : ((M.map (·.1)).all fun x => decide (x ∈ L)) = true) : pCells M = L :=
  (sorted_up hn).ext hL fun x => by
    rw [List.mem_mergeSort]
    exact ⟨fun hx => by simpa using List.all_eq_true.1 h2 x hx, fun hx => by simpa using List.all_eq_true.1 h1 x hx⟩
def gA : PG := [(1, [⟨At 0, At 0⟩]), (2, [⟨At 0, At 1⟩]), (3, [⟨At 3, At 3⟩])]
def gB : PG := [(0, [⟨At 1, At 1⟩]), (1, [⟨At 0, At 0⟩]), (2, [⟨At 1, At 1⟩])]
theorem gA_k : (gA.map (·.1)).Nodup ∧ I64s (gA.map (·.1)) := ⟨by decide +kernel, fun x hx => by simp [gA] at hx; rcases hx with rfl | rfl | rfl <;> omega⟩
theorem gB_k : (gB.map (·.1)).Nodup ∧ I64s (gB.map (·.1)) := ⟨by decide +kernel, fun x hx => by simp [gB] at hx; rcases hx with rfl | rfl | rfl <;> omega⟩
theorem gB1_k : ((gB.drop 1).map (·.1)).Nodup ∧ I64s ((gB.drop 1).map (·.1)) := ⟨by decide +kernel, fun x hx => by simp [gB] at hx; rcases hx with rfl | rfl <;> omega⟩
theorem gA_direct : pDirect gA 0 = [1, 2] := by
  unfold pDirect
  rw [cells_is [1, 2, 3] gA_k.1 (by unfold Up; decide) (by decide +kernel) (by decide +kernel)]
  decide +kernel
theorem gA_order : order (pNeedsOne gA) (pRising [3, 0, 1, 2, 1]).length [] (pRising [3, 0, 1, 2, 1]) = ([0, 1, 2], [3]) := by
  rw [pRising_eq, show rising [3, 0, 1, 2, 1] = [0, 1, 2, 3] by decide +kernel]
  decide +kernel
theorem gB_order : order (pNeedsOne gB) (pRising [0, 1, 2, 3]).length [] (pRising [0, 1, 2, 3]) = ([3], [0, 1, 2]) := by
  rw [pRising_eq, show rising [0, 1, 2, 3] = [0, 1, 2, 3] by decide +kernel]
  decide +kernel
theorem i64_small {l : List Int} (h : (l.all fun x => decide (0 ≤ x) && decide (x ≤ 100)) = true) : I64s l := fun x hx => by
  have := List.all_eq_true.1 h x hx
  simp only [Bool.and_eq_true, decide_eq_true_eq] at this
  omega
theorem gA_after0 {inn : List Int} (hn : inn.Nodup) (h : ∀ c, c ∈ inn ↔ Hangs (pNeeds gA) (gA.map (·.1)) [0] c) : inn.mergeSort (fun x y => decide (x ≤ y)) = [1, 2] :=
  sorted_is hn h [] [1, 2] (by unfold Up; decide) rfl (by decide +kernel) (by decide +kernel)
theorem gA_after3 {inn : List Int} (hn : inn.Nodup) (h : ∀ c, c ∈ inn ↔ Hangs (pNeeds gA) (gA.map (·.1)) [3] c) : inn.mergeSort (fun x y => decide (x ≤ y)) = [3] :=
  sorted_is hn h [] [3] (by unfold Up; decide) rfl (by decide +kernel) (by decide +kernel)
theorem gB_after0 {inn : List Int} (hn : inn.Nodup) (h : ∀ c, c ∈ inn ↔ Hangs (pNeeds gB) (gB.map (·.1)) [0] c) : inn.mergeSort (fun x y => decide (x ≤ y)) = [0, 1, 2] :=
  sorted_is hn h [1] [0, 1, 2] (by unfold Up; decide) (by decide +kernel) (by decide +kernel) (by decide +kernel)

set_option maxRecDepth 100000 in
theorem shown_calls (H : Heap) : ACall Try.prog 9 [] H (fun x H' => x = .bool true ∧ H' = H) := by
  refine ACall.of_body Try.func9 rfl Try.ntmps9 Try.results9 rfl ?_
  refine AWP.seq ?_
  -- region 0
  refine AWP.region ?_
  refine AList.p rfl (pure_assign ev_bool) ?_
  refine AList.nil ?_
  refine Next.go ?_
  refine AWP.seq ?_
  -- region 1
  refine AWP.region ?_
  refine AList.s rfl (step_call0 Try.call29 .nil (new_c _)) ?_
  rintro _ _ ⟨b1, m1, rfl, hle1, hb1, hm1, hp1⟩
  refine AList.p rfl (pure_assign (.tmp _ _ rfl)) ?_
  refine AList.nil ?_
  refine Next.go ?_
  refine AWP.seq ?_
  -- region 2
  refine AWP.region ?_
  refine AList.s rfl (step_call0 Try.call29 .nil (new_c _)) ?_
  rintro _ _ ⟨b2, m2, rfl, hle2, hb2, hm2, hp2⟩
  have hle := hle1.trans hle2
  have h0m1 := hm1
  have h0m2 : H.objs m2 = none := by cases h : H.objs m2 with | none => rfl | some x => rw [hle1.objs _ _ h] at hm2; cases hm2
  have hne11 : b1 ≠ m2 := Heap.ne_of hp1.box hm2
  have hne21 : m1 ≠ m2 := Heap.ne_of hp1.map hm2
  have hne12 : b2 ≠ m1 := fun h => Heap.ne_of hp1.map hb2 h.symm
  have hne22 : m2 ≠ m1 := fun h => hne21 h.symm
  have hp1 := hp1.mono hle2
  refine AList.p rfl (pure_assign (.tmp _ _ rfl)) ?_
  refine AList.nil ?_
  refine Next.go ?_
  refine AWP.seq ?_
  refine AWP.seq ?_
  -- region 3
  refine AWP.region ?_
  refine AList.p rfl (pure_move (.tmp _ _ rfl)) ?_
  first | (refine AList.p rfl (pure_eqlPN Try.underlying25 (.tmp _ _ rfl) ev_nilptr) ?_) | (refine AList.p rfl (pure_eqlPI Try.underlying25 (.tmp _ _ rfl) ev_nilptr) ?_)
  refine AList.p rfl (pure_move (.tmp _ _ rfl)) ?_
  refine AList.gp rfl rfl rfl (by first | rfl | assumption) (pure_move (.tmp _ _ rfl)) ?_
  first | (refine AList.gp rfl rfl rfl (by first | rfl | assumption) (pure_eqlPN Try.underlying25 (.tmp _ _ rfl) ev_nilptr) ?_) | (refine AList.gp rfl rfl rfl (by first | rfl | assumption) (pure_eqlPI Try.underlying25 (.tmp _ _ rfl) ev_nilptr) ?_)
  refine AList.p rfl (pure_pickF (.tmp _ _ rfl) (by first | rfl | assumption) (.tmp _ _ rfl)) ?_
  refine AList.nil ?_
  refine Next.go ?_
  -- c0
  refine AWP.cond_false (.tmp _ _ rfl) (by first | rfl | assumption) ?_
  refine AWP.skip ?_
  refine Next.go ?_
  refine AWP.seq ?_
  -- region 5
  refine AWP.region ?_
  refine AList.p rfl (pure_move (.tmp _ _ rfl)) ?_
  refine AList.s rfl (step_call0 Try.call30 (.cons ev_int (.cons ev_int .nil)) (one_calls _ _ (by decide) (by decide) _)) ?_
  rintro _ _ ⟨rfl, hH⟩
  obtain rfl := hH.symm
  refine AList.s rfl (step_bs1 Try.underlying39 Try.sizeOf52 Try.zeroValue52 rfl (.tmp _ _ rfl) (.inr ⟨_, rfl⟩) ⟨rfl, rfl⟩) ?_
  rintro _ _ ⟨rfl, hH⟩
  obtain rfl := hH.symm
  refine AList.s rfl (step_call0 Try.call28 (.cons (.tmp _ _ rfl) (.cons ev_int (.cons (.tmp _ _ rfl) .nil))) (set_c b1 m1 [] (by decide +kernel) (1) (by unfold In64; decide) [⟨At 0, At 0⟩] .full (by decide) _ hp1 0 (by decide +kernel) (gA.take 1) (by decide +kernel))) ?_
  rintro _ _ ⟨rfl, hp1, ht⟩
  have hle := ht.le hle h0m1
  have hp2 := hp2.turned ht hne12 hne22
  refine AList.nil ?_
  refine Next.go ?_
  refine AWP.seq ?_
  -- region 6
  refine AWP.region ?_
  refine AList.p rfl (pure_move (.tmp _ _ rfl)) ?_
  refine AList.s rfl (step_call0 Try.call30 (.cons ev_int (.cons ev_int .nil)) (one_calls _ _ (by decide) (by decide) _)) ?_
  rintro _ _ ⟨rfl, hH⟩
  obtain rfl := hH.symm
  refine AList.s rfl (step_bs1 Try.underlying39 Try.sizeOf52 Try.zeroValue52 rfl (.tmp _ _ rfl) (.inr ⟨_, rfl⟩) ⟨rfl, rfl⟩) ?_
  rintro _ _ ⟨rfl, hH⟩
  obtain rfl := hH.symm
  refine AList.s rfl (step_call0 Try.call28 (.cons (.tmp _ _ rfl) (.cons ev_int (.cons (.tmp _ _ rfl) .nil))) (set_c b1 m1 (gA.take 1) (by decide +kernel) (2) (by unfold In64; decide) [⟨At 0, At 1⟩] .full (by decide) _ hp1 0 (by decide +kernel) (gA.take 2) (by decide +kernel))) ?_
  rintro _ _ ⟨rfl, hp1, ht⟩
  have hle := ht.le hle h0m1
  have hp2 := hp2.turned ht hne12 hne22
  refine AList.nil ?_
  refine Next.go ?_
  refine AWP.seq ?_
  -- region 7
  refine AWP.region ?_
  refine AList.p rfl (pure_move (.tmp _ _ rfl)) ?_
  refine AList.s rfl (step_call0 Try.call30 (.cons ev_int (.cons ev_int .nil)) (one_calls _ _ (by decide) (by decide) _)) ?_
  rintro _ _ ⟨rfl, hH⟩
  obtain rfl := hH.symm
  refine AList.s rfl (step_bs1 Try.underlying39 Try.sizeOf52 Try.zeroValue52 rfl (.tmp _ _ rfl) (.inr ⟨_, rfl⟩) ⟨rfl, rfl⟩) ?_
  rintro _ _ ⟨rfl, hH⟩
  obtain rfl := hH.symm
  refine AList.s rfl (step_call0 Try.call28 (.cons (.tmp _ _ rfl) (.cons ev_int (.cons (.tmp _ _ rfl) .nil))) (set_c b1 m1 (gA.take 2) (by decide +kernel) (3) (by unfold In64; decide) [⟨At 3, At 3⟩] .full (by decide) _ hp1 0 (by decide +kernel) gA (by decide +kernel))) ?_
  rintro _ _ ⟨rfl, hp1, ht⟩
  have hle := ht.le hle h0m1
  have hp2 := hp2.turned ht hne12 hne22
  refine AList.nil ?_
  refine Next.go ?_
  refine AWP.seq ?_
  -- region 8
  refine AWP.region ?_
  refine AList.p rfl (pure_move (.tmp _ _ rfl)) ?_
  refine AList.s rfl (step_bsN Try.underlying23 Try.sizeOf3 Try.zeroValue3 rfl rfl rfl (.cons ev_int (.inl rfl) (.cons ev_int (.inl rfl) (.cons ev_int (.inl rfl) (.cons ev_int (.inl rfl) (.cons ev_int (.inl rfl) .nil))))) (rowq_c ⟨rfl, rfl⟩ (rowq_c ⟨rfl, rfl⟩ (rowq_c ⟨rfl, rfl⟩ (rowq_c ⟨rfl, rfl⟩ (rowq_c ⟨rfl, rfl⟩ rowq_n)))))) ?_
  rintro _ _ ⟨rfl, hH⟩
  obtain rfl := hH.symm
  refine AList.s rfl (step_call0 Try.call15 (.cons (.tmp _ _ rfl) (.cons (.tmp _ _ rfl) .nil)) (pOrder_calls b1 m1 gA (pAreas_all (by decide +kernel)) [3, 0, 1, 2, 1] .full (by decide) (i64_small (by decide)) _ hp1)) ?_
  rw [gA_order]
  rintro _ _ ⟨rfl, hH⟩
  obtain rfl := hH.symm
  refine AList.p rfl (pure_move (.tmp _ _ rfl)) ?_
  refine AList.p rfl (pure_extract (.tmp _ _ rfl) rfl) ?_
  refine AList.p rfl (pure_extract (.tmp _ _ rfl) rfl) ?_
  refine AList.p rfl (pure_assign (.tmp _ _ rfl)) ?_
  refine AList.p rfl (pure_assign (.tmp _ _ rfl)) ?_
  refine AList.nil ?_
  refine Next.go ?_
  refine AWP.seq ?_
  -- region 9
  refine AWP.region ?_
  refine AList.p rfl (pure_move (.tmp _ _ rfl)) ?_
  refine AList.s rfl (step_call0 Try.call18 (.cons (.tmp _ _ rfl) (.cons ev_int .nil)) (pDirect_calls b1 m1 gA (pAreas_all (by decide +kernel)) (by decide) gA_k 0 (by decide) _ hp1)) ?_
  rw [gA_direct]
  rintro _ _ ⟨rfl, hH⟩
  obtain rfl := hH.symm
  refine AList.s rfl (step_bs2 Try.underlying23 Try.sizeOf3 Try.zeroValue3 rfl ev_int (.inl rfl) ⟨rfl, rfl⟩ ev_int (.inl rfl) ⟨rfl, rfl⟩) ?_
  rintro _ _ ⟨rfl, hH⟩
  obtain rfl := hH.symm
  refine AList.s rfl (step_call0 Try.call12 (.cons (.tmp _ _ rfl) (.cons (.tmp _ _ rfl) .nil)) (same_t [1, 2] [1, 2] _ _ (by decide) _ rfl)) ?_
  rintro _ _ ⟨rfl, hH⟩
  obtain rfl := hH.symm
  refine AList.p rfl (pure_move (.tmp _ _ rfl)) ?_
  refine AList.gp rfl rfl rfl (by first | rfl | assumption) (pure_move (.tmp _ _ rfl)) ?_
  refine AList.gs rfl rfl rfl (by first | rfl | assumption) (step_bs1 Try.underlying23 Try.sizeOf3 Try.zeroValue3 rfl ev_int (.inl rfl) ⟨rfl, rfl⟩) ?_
  rintro _ _ ⟨rfl, hH⟩
  obtain rfl := hH.symm
  refine AList.gs rfl rfl rfl (by first | rfl | assumption) (step_call0 Try.call13 (.cons (.tmp _ _ rfl) (.cons (.tmp _ _ rfl) .nil)) (pAfter_calls b1 m1 gA (pAreas_all (by decide +kernel)) (by decide) gA_k [0] .full (by decide) (i64_small (by decide)) _ hp1)) ?_
  rintro _ _ ⟨inn42, hnd42, hin42, hx, hH⟩
  rw [gA_after0 hnd42 hin42] at hx
  obtain rfl := hx
  obtain rfl := hH.symm
  refine AList.gs rfl rfl rfl (by first | rfl | assumption) (step_bs2 Try.underlying23 Try.sizeOf3 Try.zeroValue3 rfl ev_int (.inl rfl) ⟨rfl, rfl⟩ ev_int (.inl rfl) ⟨rfl, rfl⟩) ?_
  rintro _ _ ⟨rfl, hH⟩
  obtain rfl := hH.symm
  refine AList.gs rfl rfl rfl (by first | rfl | assumption) (step_call0 Try.call12 (.cons (.tmp _ _ rfl) (.cons (.tmp _ _ rfl) .nil)) (same_t [1, 2] [1, 2] _ _ (by decide) _ rfl)) ?_
  rintro _ _ ⟨rfl, hH⟩
  obtain rfl := hH.symm
  refine AList.p rfl (pure_pickT (.tmp _ _ rfl) (by first | rfl | assumption) (.tmp _ _ rfl)) ?_
  refine AList.p rfl (pure_move (.tmp _ _ rfl)) ?_
  refine AList.gp rfl rfl rfl (by first | rfl | assumption) (pure_move (.tmp _ _ rfl)) ?_
  refine AList.gs rfl rfl rfl (by first | rfl | assumption) (step_bs1 Try.underlying23 Try.sizeOf3 Try.zeroValue3 rfl ev_int (.inl rfl) ⟨rfl, rfl⟩) ?_
  rintro _ _ ⟨rfl, hH⟩
  obtain rfl := hH.symm
  refine AList.gs rfl rfl rfl (by first | rfl | assumption) (step_call0 Try.call13 (.cons (.tmp _ _ rfl) (.cons (.tmp _ _ rfl) .nil)) (pAfter_calls b1 m1 gA (pAreas_all (by decide +kernel)) (by decide) gA_k [3] .full (by decide) (i64_small (by decide)) _ hp1)) ?_
  rintro _ _ ⟨inn49, hnd49, hin49, hx, hH⟩
  rw [gA_after3 hnd49 hin49] at hx
  obtain rfl := hx
  obtain rfl := hH.symm
  refine AList.gs rfl rfl rfl (by first | rfl | assumption) (step_bs1 Try.underlying23 Try.sizeOf3 Try.zeroValue3 rfl ev_int (.inl rfl) ⟨rfl, rfl⟩) ?_
  rintro _ _ ⟨rfl, hH⟩
  obtain rfl := hH.symm
  refine AList.gs rfl rfl rfl (by first | rfl | assumption) (step_call0 Try.call12 (.cons (.tmp _ _ rfl) (.cons (.tmp _ _ rfl) .nil)) (same_t [3] [3] _ _ (by decide) _ rfl)) ?_
  rintro _ _ ⟨rfl, hH⟩
  obtain rfl := hH.symm
  refine AList.p rfl (pure_pickT (.tmp _ _ rfl) (by first | rfl | assumption) (.tmp _ _ rfl)) ?_
  refine AList.p rfl (pure_move (.tmp _ _ rfl)) ?_
  refine AList.gp rfl rfl rfl (by first | rfl | assumption) (pure_move (.tmp _ _ rfl)) ?_
  refine AList.gs rfl rfl rfl (by first | rfl | assumption) (step_bsN Try.underlying23 Try.sizeOf3 Try.zeroValue3 rfl rfl rfl (.cons ev_int (.inl rfl) (.cons ev_int (.inl rfl) (.cons ev_int (.inl rfl) .nil))) (rowq_c ⟨rfl, rfl⟩ (rowq_c ⟨rfl, rfl⟩ (rowq_c ⟨rfl, rfl⟩ rowq_n)))) ?_
  rintro _ _ ⟨rfl, hH⟩
  obtain rfl := hH.symm
  refine AList.gs rfl rfl rfl (by first | rfl | assumption) (step_call0 Try.call12 (.cons (.tmp _ _ rfl) (.cons (.tmp _ _ rfl) .nil)) (same_t [0, 1, 2] [0, 1, 2] _ _ (by decide) _ rfl)) ?_
  rintro _ _ ⟨rfl, hH⟩
  obtain rfl := hH.symm
  refine AList.p rfl (pure_pickT (.tmp _ _ rfl) (by first | rfl | assumption) (.tmp _ _ rfl)) ?_
  refine AList.p rfl (pure_move (.tmp _ _ rfl)) ?_
  refine AList.gp rfl rfl rfl (by first | rfl | assumption) (pure_move (.tmp _ _ rfl)) ?_
  refine AList.gs rfl rfl rfl (by first | rfl | assumption) (step_bs1 Try.underlying23 Try.sizeOf3 Try.zeroValue3 rfl ev_int (.inl rfl) ⟨rfl, rfl⟩) ?_
  rintro _ _ ⟨rfl, hH⟩
  obtain rfl := hH.symm
  refine AList.gs rfl rfl rfl (by first | rfl | assumption) (step_call0 Try.call12 (.cons (.tmp _ _ rfl) (.cons (.tmp _ _ rfl) .nil)) (same_t [3] [3] _ _ (by decide) _ rfl)) ?_
  rintro _ _ ⟨rfl, hH⟩
  obtain rfl := hH.symm
  refine AList.p rfl (pure_pickT (.tmp _ _ rfl) (by first | rfl | assumption) (.tmp _ _ rfl)) ?_
  refine AList.p rfl (pure_assign (.tmp _ _ rfl)) ?_
  refine AList.nil ?_
  refine Next.go ?_
  refine AWP.seq ?_
  -- region 10
  refine AWP.region ?_
  refine AList.p rfl (pure_move (.tmp _ _ rfl)) ?_
  refine AList.s rfl (step_call0 Try.call30 (.cons ev_int (.cons ev_int .nil)) (one_calls _ _ (by decide) (by decide) _)) ?_
  rintro _ _ ⟨rfl, hH⟩
  obtain rfl := hH.symm
  refine AList.s rfl (step_bs1 Try.underlying39 Try.sizeOf52 Try.zeroValue52 rfl (.tmp _ _ rfl) (.inr ⟨_, rfl⟩) ⟨rfl, rfl⟩) ?_
  rintro _ _ ⟨rfl, hH⟩
  obtain rfl := hH.symm
  refine AList.s rfl (step_call0 Try.call28 (.cons (.tmp _ _ rfl) (.cons ev_int (.cons (.tmp _ _ rfl) .nil))) (set_c b2 m2 [] (by decide +kernel) (0) (by unfold In64; decide) [⟨At 1, At 1⟩] .full (by decide) _ hp2 0 (by decide +kernel) (gB.take 1) (by decide +kernel))) ?_
  rintro _ _ ⟨rfl, hp2, ht⟩
  have hle := ht.le hle h0m2
  have hp1 := hp1.turned ht hne11 hne21
  refine AList.nil ?_
  refine Next.go ?_
  refine AWP.seq ?_
  -- region 11
  refine AWP.region ?_
  refine AList.p rfl (pure_move (.tmp _ _ rfl)) ?_
  refine AList.s rfl (step_call0 Try.call30 (.cons ev_int (.cons ev_int .nil)) (one_calls _ _ (by decide) (by decide) _)) ?_
  rintro _ _ ⟨rfl, hH⟩
  obtain rfl := hH.symm
  refine AList.s rfl (step_bs1 Try.underlying39 Try.sizeOf52 Try.zeroValue52 rfl (.tmp _ _ rfl) (.inr ⟨_, rfl⟩) ⟨rfl, rfl⟩) ?_
  rintro _ _ ⟨rfl, hH⟩
  obtain rfl := hH.symm
  refine AList.s rfl (step_call0 Try.call28 (.cons (.tmp _ _ rfl) (.cons ev_int (.cons (.tmp _ _ rfl) .nil))) (set_c b2 m2 (gB.take 1) (by decide +kernel) (1) (by unfold In64; decide) [⟨At 0, At 0⟩] .full (by decide) _ hp2 0 (by decide +kernel) (gB.take 2) (by decide +kernel))) ?_
  rintro _ _ ⟨rfl, hp2, ht⟩
  have hle := ht.le hle h0m2
  have hp1 := hp1.turned ht hne11 hne21
  refine AList.nil ?_
  refine Next.go ?_
  refine AWP.seq ?_
  -- region 12
  refine AWP.region ?_
  refine AList.p rfl (pure_move (.tmp _ _ rfl)) ?_
  refine AList.s rfl (step_call0 Try.call30 (.cons ev_int (.cons ev_int .nil)) (one_calls _ _ (by decide) (by decide) _)) ?_
  rintro _ _ ⟨rfl, hH⟩
  obtain rfl := hH.symm
  refine AList.s rfl (step_bs1 Try.underlying39 Try.sizeOf52 Try.zeroValue52 rfl (.tmp _ _ rfl) (.inr ⟨_, rfl⟩) ⟨rfl, rfl⟩) ?_
  rintro _ _ ⟨rfl, hH⟩
  obtain rfl := hH.symm
  refine AList.s rfl (step_call0 Try.call28 (.cons (.tmp _ _ rfl) (.cons ev_int (.cons (.tmp _ _ rfl) .nil))) (set_c b2 m2 (gB.take 2) (by decide +kernel) (2) (by unfold In64; decide) [⟨At 1, At 1⟩] .full (by decide) _ hp2 0 (by decide +kernel) gB (by decide +kernel))) ?_
  rintro _ _ ⟨rfl, hp2, ht⟩
  have hle := ht.le hle h0m2
  have hp1 := hp1.turned ht hne11 hne21
  refine AList.nil ?_
  refine Next.go ?_
  refine AWP.seq ?_
  -- region 13
  refine AWP.region ?_
  refine AList.p rfl (pure_move (.tmp _ _ rfl)) ?_
  refine AList.s rfl (step_bsN Try.underlying23 Try.sizeOf3 Try.zeroValue3 rfl rfl rfl (.cons ev_int (.inl rfl) (.cons ev_int (.inl rfl) (.cons ev_int (.inl rfl) (.cons ev_int (.inl rfl) .nil)))) (rowq_c ⟨rfl, rfl⟩ (rowq_c ⟨rfl, rfl⟩ (rowq_c ⟨rfl, rfl⟩ (rowq_c ⟨rfl, rfl⟩ rowq_n))))) ?_
  rintro _ _ ⟨rfl, hH⟩
  obtain rfl := hH.symm
  refine AList.s rfl (step_call0 Try.call15 (.cons (.tmp _ _ rfl) (.cons (.tmp _ _ rfl) .nil)) (pOrder_calls b2 m2 gB (pAreas_all (by decide +kernel)) [0, 1, 2, 3] .full (by decide) (i64_small (by decide)) _ hp2)) ?_
  rw [gB_order]
  rintro _ _ ⟨rfl, hH⟩
  obtain rfl := hH.symm
  refine AList.p rfl (pure_move (.tmp _ _ rfl)) ?_
  refine AList.p rfl (pure_extract (.tmp _ _ rfl) rfl) ?_
  refine AList.p rfl (pure_extract (.tmp _ _ rfl) rfl) ?_
  refine AList.p rfl (pure_assign (.tmp _ _ rfl)) ?_
  refine AList.p rfl (pure_assign (.tmp _ _ rfl)) ?_
  refine AList.nil ?_
  refine Next.go ?_
  refine AWP.seq ?_
  -- region 14
  refine AWP.region ?_
  refine AList.p rfl (pure_move (.tmp _ _ rfl)) ?_
  refine AList.s rfl (step_bs1 Try.underlying23 Try.sizeOf3 Try.zeroValue3 rfl ev_int (.inl rfl) ⟨rfl, rfl⟩) ?_
  rintro _ _ ⟨rfl, hH⟩
  obtain rfl := hH.symm
  refine AList.s rfl (step_call0 Try.call13 (.cons (.tmp _ _ rfl) (.cons (.tmp _ _ rfl) .nil)) (pAfter_calls b2 m2 gB (pAreas_all (by decide +kernel)) (by decide) gB_k [0] .full (by decide) (i64_small (by decide)) _ hp2)) ?_
  rintro _ _ ⟨inn83, hnd83, hin83, hx, hH⟩
  rw [gB_after0 hnd83 hin83] at hx
  obtain rfl := hx
  obtain rfl := hH.symm
  refine AList.s rfl (step_bsN Try.underlying23 Try.sizeOf3 Try.zeroValue3 rfl rfl rfl (.cons ev_int (.inl rfl) (.cons ev_int (.inl rfl) (.cons ev_int (.inl rfl) .nil))) (rowq_c ⟨rfl, rfl⟩ (rowq_c ⟨rfl, rfl⟩ (rowq_c ⟨rfl, rfl⟩ rowq_n)))) ?_
  rintro _ _ ⟨rfl, hH⟩
  obtain rfl := hH.symm
  refine AList.s rfl (step_call0 Try.call12 (.cons (.tmp _ _ rfl) (.cons (.tmp _ _ rfl) .nil)) (same_t [0, 1, 2] [0, 1, 2] _ _ (by decide) _ rfl)) ?_
  rintro _ _ ⟨rfl, hH⟩
  obtain rfl := hH.symm
  refine AList.p rfl (pure_move (.tmp _ _ rfl)) ?_
  refine AList.gp rfl rfl rfl (by first | rfl | assumption) (pure_move (.tmp _ _ rfl)) ?_
  refine AList.gs rfl rfl rfl (by first | rfl | assumption) (step_bs1 Try.underlying23 Try.sizeOf3 Try.zeroValue3 rfl ev_int (.inl rfl) ⟨rfl, rfl⟩) ?_
  rintro _ _ ⟨rfl, hH⟩
  obtain rfl := hH.symm
  refine AList.gs rfl rfl rfl (by first | rfl | assumption) (step_call0 Try.call12 (.cons (.tmp _ _ rfl) (.cons (.tmp _ _ rfl) .nil)) (same_t [3] [3] _ _ (by decide) _ rfl)) ?_
  rintro _ _ ⟨rfl, hH⟩
  obtain rfl := hH.symm
  refine AList.p rfl (pure_pickT (.tmp _ _ rfl) (by first | rfl | assumption) (.tmp _ _ rfl)) ?_
  refine AList.p rfl (pure_move (.tmp _ _ rfl)) ?_
  refine AList.gp rfl rfl rfl (by first | rfl | assumption) (pure_move (.tmp _ _ rfl)) ?_
  refine AList.gs rfl rfl rfl (by first | rfl | assumption) (step_bsN Try.underlying23 Try.sizeOf3 Try.zeroValue3 rfl rfl rfl (.cons ev_int (.inl rfl) (.cons ev_int (.inl rfl) (.cons ev_int (.inl rfl) .nil))) (rowq_c ⟨rfl, rfl⟩ (rowq_c ⟨rfl, rfl⟩ (rowq_c ⟨rfl, rfl⟩ rowq_n)))) ?_
  rintro _ _ ⟨rfl, hH⟩
  obtain rfl := hH.symm
  refine AList.gs rfl rfl rfl (by first | rfl | assumption) (step_call0 Try.call12 (.cons (.tmp _ _ rfl) (.cons (.tmp _ _ rfl) .nil)) (same_t [0, 1, 2] [0, 1, 2] _ _ (by decide) _ rfl)) ?_
  rintro _ _ ⟨rfl, hH⟩
  obtain rfl := hH.symm
  refine AList.p rfl (pure_pickT (.tmp _ _ rfl) (by first | rfl | assumption) (.tmp _ _ rfl)) ?_
  refine AList.p rfl (pure_assign (.tmp _ _ rfl)) ?_
  refine AList.nil ?_
  refine Next.go ?_
  refine AWP.seq ?_
  -- region 15
  refine AWP.region ?_
  refine AList.p rfl (pure_move (.tmp _ _ rfl)) ?_
  refine AList.p rfl (pure_move (.tmp _ _ rfl)) ?_
  refine AList.gp rfl rfl rfl (by first | rfl | assumption) (pure_move (.tmp _ _ rfl)) ?_
  refine AList.p rfl (pure_pickT (.tmp _ _ rfl) (by first | rfl | assumption) (.tmp _ _ rfl)) ?_
  refine AList.p rfl (pure_move (.tmp _ _ rfl)) ?_
  refine AList.gp rfl rfl rfl (by first | rfl | assumption) (pure_move (.tmp _ _ rfl)) ?_
  refine AList.gs rfl rfl rfl (by first | rfl | assumption) (step_call0 Try.call28 (.cons (.tmp _ _ rfl) (.cons ev_int (.cons (ev_nil (sz := 8) (tl := .full)) .nil))) (set_c b2 m2 gB (by decide +kernel) (64000) (by unfold In64; decide) [] .full (by decide) _ hp2 14 (by decide +kernel) gB (by decide +kernel))) ?_
  rintro _ _ ⟨rfl, hp2, ht⟩
  have hle := ht.le hle h0m2
  have hp1 := hp1.turned ht hne11 hne21
  refine AList.gp rfl rfl rfl (by first | rfl | assumption) (pure_eql (.tmp _ _ rfl) ev_int) ?_
  refine AList.p rfl (pure_pickT (.tmp _ _ rfl) (by first | rfl | assumption) (.tmp _ _ rfl)) ?_
  refine AList.p rfl (pure_move (.tmp _ _ rfl)) ?_
  refine AList.gp rfl rfl rfl (by first | rfl | assumption) (pure_move (.tmp _ _ rfl)) ?_
  refine AList.gs rfl rfl rfl (by first | rfl | assumption) (step_call0 Try.call30 (.cons ev_int (.cons ev_int .nil)) (one_calls _ _ (by decide) (by decide) _)) ?_
  rintro _ _ ⟨rfl, hH⟩
  obtain rfl := hH.symm
  refine AList.gs rfl rfl rfl (by first | rfl | assumption) (step_bs1 Try.underlying39 Try.sizeOf52 Try.zeroValue52 rfl (.tmp _ _ rfl) (.inr ⟨_, rfl⟩) ⟨rfl, rfl⟩) ?_
  rintro _ _ ⟨rfl, hH⟩
  obtain rfl := hH.symm
  refine AList.gs rfl rfl rfl (by first | rfl | assumption) (step_call0 Try.call28 (.cons (.tmp _ _ rfl) (.cons ev_int (.cons (.tmp _ _ rfl) .nil))) (set_c b2 m2 gB (by decide +kernel) (0) (by unfold In64; decide) [⟨At 1, At 0⟩] .full (by decide) _ hp2 1 (by decide +kernel) gB (by decide +kernel))) ?_
  rintro _ _ ⟨rfl, hp2, ht⟩
  have hle := ht.le hle h0m2
  have hp1 := hp1.turned ht hne11 hne21
  refine AList.gp rfl rfl rfl (by first | rfl | assumption) (pure_eql (.tmp _ _ rfl) ev_int) ?_
  refine AList.p rfl (pure_pickT (.tmp _ _ rfl) (by first | rfl | assumption) (.tmp _ _ rfl)) ?_
  refine AList.p rfl (pure_move (.tmp _ _ rfl)) ?_
  refine AList.gp rfl rfl rfl (by first | rfl | assumption) (pure_move (.tmp _ _ rfl)) ?_
  refine AList.gs rfl rfl rfl (by first | rfl | assumption) (step_call0 Try.call28 (.cons (.tmp _ _ rfl) (.cons ev_int (.cons (ev_nil (sz := 8) (tl := .full)) .nil))) (set_c b2 m2 gB (by decide +kernel) (0) (by unfold In64; decide) [] .full (by decide) _ hp2 0 (by decide +kernel) (gB.drop 1) (by decide +kernel))) ?_
  rintro _ _ ⟨rfl, hp2, ht⟩
  have hle := ht.le hle h0m2
  have hp1 := hp1.turned ht hne11 hne21
  refine AList.gp rfl rfl rfl (by first | rfl | assumption) (pure_eql (.tmp _ _ rfl) ev_int) ?_
  refine AList.p rfl (pure_pickT (.tmp _ _ rfl) (by first | rfl | assumption) (.tmp _ _ rfl)) ?_
  refine AList.p rfl (pure_move (.tmp _ _ rfl)) ?_
  refine AList.gp rfl rfl rfl (by first | rfl | assumption) (pure_move (.tmp _ _ rfl)) ?_
  refine AList.gs rfl rfl rfl (by first | rfl | assumption) (step_call0 Try.call21 (.cons (.tmp _ _ rfl) .nil) (pCells_calls b2 m2 (gB.drop 1) _ (by decide) gB1_k hp2)) ?_
  rw [cells_is [1, 2] gB1_k.1 (by unfold Up; decide) (by decide +kernel) (by decide +kernel)]
  rintro _ _ ⟨rfl, hH⟩
  obtain rfl := hH.symm
  refine AList.gs rfl rfl rfl (by first | rfl | assumption) (step_bs2 Try.underlying23 Try.sizeOf3 Try.zeroValue3 rfl ev_int (.inl rfl) ⟨rfl, rfl⟩ ev_int (.inl rfl) ⟨rfl, rfl⟩) ?_
  rintro _ _ ⟨rfl, hH⟩
  obtain rfl := hH.symm
  refine AList.gs rfl rfl rfl (by first | rfl | assumption) (step_call0 Try.call12 (.cons (.tmp _ _ rfl) (.cons (.tmp _ _ rfl) .nil)) (same_t [1, 2] [1, 2] _ _ (by decide) _ rfl)) ?_
  rintro _ _ ⟨rfl, hH⟩
  obtain rfl := hH.symm
  refine AList.p rfl (pure_pickT (.tmp _ _ rfl) (by first | rfl | assumption) (.tmp _ _ rfl)) ?_
  refine AList.p rfl (pure_assign (.tmp _ _ rfl)) ?_
  refine AList.nil ?_
  refine Next.go ?_
  refine AWP.ret ?_
  -- ret 0
  refine Ret.go (.cons (.tmp _ _ rfl) .nil) _ (hle) ?_
  exact ⟨rfl, rfl⟩


end Go.Proofs.Ytdibiongjkmlpaa
