/-
  The program's After.
-/
import Derived.Test.YtdibiongjkmlpaaGm
namespace Go.Proofs.Ytdibiongjkmlpaa
open Go Go.RowKit

set_option maxRecDepth 100000 in
theorem CloneO_calls (l : List Int) (tl : Tail) (H : Heap) (hlen : l.length ≤ 1000000) : ACall Try.prog 33 [.slice 1 (l.map (.int .i64)) tl] H (fun x H' => ∃ t, H.toks t = false ∧ x = .slice 1 (l.map (.int .i64)) (.own t) ∧ H' = H.live t) := by
  refine ACall.of_body Try.func33 rfl Try.ntmps33 Try.results33 rfl ?_
  refine AWP.seq ?_
  -- region 0
  refine AWP.region ?_
  refine AList.p rfl (pure_assign (ev_nil (sz := 1) (tl := .full))) ?_
  refine AList.nil ?_
  refine Next.go ?_
  refine AWP.seq ?_
  refine AWP.seq ?_
  -- region 1
  refine AWP.region ?_
  refine AList.p rfl (pure_move (.tmp _ _ rfl)) ?_
  refine AList.s rfl (step_eqlNS Try.underlying23 (.tmp _ _ rfl)) ?_
  rintro _ _ ⟨bn4, hn4, rfl, hH⟩
  obtain rfl := hH.symm
  refine AList.nil ?_
  refine Next.go ?_
  -- c0
  refine AWP.cond (.tmp _ _ rfl) (fun hc4 => ?_) (fun hc4 => ?_)
  · try simp only [decide_eq_true_eq, decide_eq_false_iff_not, Bool.not_eq_true', Bool.not_eq_false', Int.not_lt, Int.not_le, ne_eq, Decidable.not_not] at hc4
    refine AWP.seq ?_
    -- region 2
    refine AWP.region ?_
    refine AList.p rfl (pure_assign (ev_nil (sz := 1) (tl := .full))) ?_
    refine AList.nil ?_
    refine Next.go ?_
    refine AWP.tag (t := 2) rfl (fun u hu => ?_)
    refine AWP.ret ?_
    refine Next.rt ?_
    -- ret 0
    refine Ret.go (.cons (.tmp _ _ rfl) .nil) _ (Heap.le.refl _) ?_
    have hl0 := hn4 hc4
    rw [show l = [] by simpa using hl0]
    exact ⟨u, hu, rfl, rfl⟩
  · try simp only [decide_eq_true_eq, decide_eq_false_iff_not, Bool.not_eq_true', Bool.not_eq_false', Int.not_lt, Int.not_le, ne_eq, Decidable.not_not] at hc4
    refine AWP.skip ?_
    refine Next.go ?_
    refine AWP.seq ?_
    -- region 3
    refine AWP.region ?_
    refine AList.s rfl (step_bs0 Try.underlying23 Try.sizeOf3 Try.zeroValue3 ) ?_
    rintro _ _ ⟨rfl, hH⟩
    obtain rfl := hH.symm
    refine AList.p rfl (pure_move (.tmp _ _ rfl)) ?_
    refine AList.s rfl (step_append Try.underlying23 Try.underlying23 Try.sizeOf3 Try.typeInfo3 Try.zeroValue3 rfl (by decide) (.tmp _ _ rfl) (.tmp _ _ rfl) (by exact .full) (by show (_ + _) * 8 ≤ _; simp; omega) (by repeat' (first | exact row_int _ | exact row_n | exact row_c ⟨rfl, rfl⟩ row_n | exact row_drop (row_int _) | exact row_take (row_int _) | refine row_app ?_ ?_ | exact row_n)) (by repeat' (first | exact row_int _ | exact row_n | exact row_c ⟨rfl, rfl⟩ row_n | exact row_drop (row_int _) | exact row_take (row_int _) | refine row_app ?_ ?_))) ?_
    rintro _ _ ⟨t7, ht7, rfl, hH⟩
    obtain rfl := hH.symm
    refine AList.p rfl (pure_assign (.tmp _ _ rfl)) ?_
    refine AList.nil ?_
    refine Next.go ?_
    refine AWP.ret ?_
    -- ret 1
    refine Ret.go (.cons (.tmp _ _ rfl) .nil) _ (Heap.le.refl _) ?_
    exact ⟨t7, ht7, rfl, rfl⟩

def paft_J (b m5 : Nat) (M : PG) (l : List Int) (H : Heap) : Nat → Env → Heap → Prop := fun k env H1 => ∃ (K : KC) (q : List Int) (t : Nat), env = [(0, .ptr (some ⟨b, 0, none⟩)), (5, .map (some m5)), (6, .slice 1 (q.map (.int .i64)) (.own t))] ∧ QOut (pNeeds M) (M.map (·.1)) l (M.length + l.length) k K q ∧ H.le H1 ∧ H.objs m5 = none ∧ H1.objs m5 = some (.map (ents .i64 (kents K))) ∧ H1.toks t = true ∧ H.toks t = false

def paft_K (b m5 : Nat) (M : PG) (l d K0 q0 : List Int) (B0 : Int) (H : Heap) : Nat → Env → Heap → Prop := fun k env H1 => ∃ (j : Nat) (K : KC) (q : List Int) (t : Nat), j ≤ d.length ∧ env = [(0, .ptr (some ⟨b, 0, none⟩)), (5, .map (some m5)), (6, .slice 1 (q.map (.int .i64)) (.own t)), (21, .slice 1 (d.map (.int .i64)) .shared), (22, .int .i64 d.length), (23, .int .i64 j)] ∧ QIn (pNeeds M) (M.map (·.1)) l d K0 q0 B0 j K q ∧ H.le H1 ∧ H.objs m5 = none ∧ H1.objs m5 = some (.map (ents .i64 (kents K))) ∧ H1.toks t = true ∧ H.toks t = false ∧ k = d.length - j

set_option maxRecDepth 100000 in
theorem pAfter_calls (b m : Nat) (M : PG) (hA : ∀ c, (pAreas M c).length ≤ 10000) (hM : M.length ≤ 10000) (hk : (M.map (·.1)).Nodup ∧ I64s (M.map (·.1))) (l : List Int) (tl : Tail) (hl : l.length ≤ 100000) (h64 : I64s l) (H : Heap) (hp : PBox H b m M) : ACall Try.prog 13 [.ptr (some ⟨b, 0, none⟩), .slice 1 (l.map (.int .i64)) tl] H (fun x H' => ∃ inn : List Int, inn.Nodup ∧ (∀ c, c ∈ inn ↔ Hangs (pNeeds M) (M.map (·.1)) l c) ∧ x = .slice 1 ((inn.mergeSort fun x y => decide (x ≤ y)).map (.int .i64)) .shared ∧ H' = H) := by
  have hMl : (M.map (·.1)).length = M.length := by simp
  refine ACall.of_body Try.func13 rfl Try.ntmps13 Try.results13 rfl ?_
  refine AWP.seq ?_
  -- region 0
  refine AWP.region ?_
  refine AList.p rfl (pure_assign (ev_nil (sz := 1) (tl := .full))) ?_
  refine AList.nil ?_
  refine Next.go ?_
  refine AWP.seq ?_
  -- region 1
  refine AWP.region ?_
  refine AList.s rfl (step_makeMap) ?_
  rintro _ _ ⟨m9, hm9, rfl, hH⟩
  obtain rfl := hH.symm
  refine AList.p rfl (pure_assign (.tmp _ _ rfl)) ?_
  refine AList.nil ?_
  refine Next.go ?_
  refine AWP.seq ?_
  refine AWP.seq ?_
  -- region 2
  refine AWP.region ?_
  refine AList.p rfl (pure_move (.tmp _ _ rfl)) ?_
  refine AList.s rfl (step_call0 Try.call33 (.cons (.tmp _ _ rfl) .nil) (CloneO_calls _ _ _ (by omega))) ?_
  rintro _ _ ⟨t, ht, rfl, hH⟩
  obtain rfl := hH.symm
  have hle0 := (Heap.le_set_new (Heap.le.refl H) hm9 (.map [])).trans (Heap.le_live _ t)
  have htf : H.toks t = false := ht
  refine AList.p rfl (pure_assign (.tmp _ _ rfl)) ?_
  refine AList.nil ?_
  refine Next.go ?_
  refine AWP.block ?_
  -- L0
  refine AWP.loopW (paft_J b m9 M l H) (M.length + l.length) ⟨[], l, t, rfl, by have := QOut.start (pNeeds M) (M.map (·.1)) l; rwa [hMl] at this, hle0, hm9, Heap.objs_set_same _ _ _, Heap.toks_live_same _ _, htf⟩ (sub_c rfl (sub_c rfl (sub_c rfl sub_n))) (Heap.le.refl _) ?_
  rintro k _ H1 ⟨K, q, t, rfl, hQ, hle, hm5n, hm5, hlive, hfr⟩
  have hKl := hQ.size
  rw [hMl] at hKl
  have hmeas := hQ.meas
  have hkle := hQ.kle
  rw [hMl] at hmeas
  refine AWP.seq ?_
  refine AWP.seq ?_
  -- region 3
  refine AWP.region ?_
  refine AList.p rfl (pure_move (.tmp _ _ rfl)) ?_
  first | (refine AList.p rfl (pure_lenL Try.underlying23 (.tmp _ _ rfl)) ?_) | (refine AList.p rfl (pure_lenS Try.underlying23 (.tmp _ _ rfl)) ?_) | (refine AList.p rfl (pure_lenM Try.underlying23 (.tmp _ _ rfl)) ?_)
  refine AList.p rfl (pure_gtr (.tmp _ _ rfl) ev_int) ?_
  refine AList.nil ?_
  refine Next.go ?_
  -- c0
  refine AWP.cond (.tmp _ _ rfl) (fun hc14 => ?_) (fun hc14 => ?_)
  · try simp only [decide_eq_true_eq] at hc14
    obtain ⟨c, rest, rfl⟩ : ∃ c rest, q = c :: rest := by cases q with | nil => simp at hc14 | cons c r => exact ⟨c, r, rfl⟩
    have hcb : -9223372036854775808 ≤ c ∧ c ≤ 9223372036854775807 := by
      rcases hQ.from_ c (by simp) with h | h
      · exact h64 c h
      · exact hk.2 c (hQ.hang c h).mem
    have hdh := hQ.head (d := pDirect M c) (fun y => mem_pDirect M c y)
    refine AWP.skip ?_
    refine Next.go ?_
    refine AWP.seq ?_
    refine AWP.block ?_
    refine AWP.seq ?_
    -- region 5
    refine AWP.region ?_
    refine AList.p rfl (pure_move (.tmp _ _ rfl)) ?_
    refine AList.p rfl (pure_move (.tmp _ _ rfl)) ?_
    first | (refine AList.p rfl (pure_indexL Try.underlying23 Try.sizeOf3 (.tmp _ _ rfl) ev_int (by omega) (by omega)) ?_) | (refine AList.p rfl (pure_indexM Try.underlying23 Try.sizeOf3 (.tmp _ _ rfl) ev_int (by omega) (by omega)) ?_)
    first | (refine AList.p rfl (pure_load1 Try.isAgg3 (.tmp _ _ rfl)) ?_) | (refine AList.s rfl (step_load1 Try.isAgg3 (.tmp _ _ rfl) (by first | assumption | exact (by assumption : Heap.le _ _).objs _ _ (by assumption) | exact Heap.objs_set_same _ _ _ | exact (Heap.objs_set_ne _ _ (by assumption)).trans (Heap.objs_set_same _ _ _) | exact (Heap.objs_set_ne _ _ (by assumption)).trans ((Heap.objs_set_ne _ _ (by assumption)).trans (Heap.objs_set_same _ _ _)) | exact (Heap.objs_set_ne _ _ (by assumption)).trans (by assumption)) rfl) ?_; rintro _ _ ⟨rfl, hH⟩; obtain rfl := hH.symm)
    refine AList.s rfl (step_call0 Try.call18 (.cons (.tmp _ _ rfl) (.cons (.tmp _ _ rfl) .nil)) (pDirect_calls _ _ M hA hM hk c hcb _ (hp.mono hle))) ?_
    rintro _ _ ⟨rfl, hH⟩
    obtain rfl := hH.symm
    first | (refine AList.p rfl (pure_lenL Try.underlying23 (.tmp _ _ rfl)) ?_) | (refine AList.p rfl (pure_lenS Try.underlying23 (.tmp _ _ rfl)) ?_) | (refine AList.p rfl (pure_lenM Try.underlying23 (.tmp _ _ rfl)) ?_)
    refine AList.p rfl (pure_move ev_int) ?_
    refine AList.nil ?_
    refine Next.go ?_
    refine AWP.block ?_
    -- L1
    refine AWP.loopW (paft_K b m9 M l (pDirect M c) (kKeys K) (c :: rest) (((M.length + l.length - k : Nat) : Int) * 10000) H) ((pDirect M c).length) ⟨0, K, c :: rest, t, Nat.zero_le _, rfl, QIn.start hQ.nodup hQ.ok hQ.hang, hle, hm5n, hm5, hlive, hfr, rfl⟩ (sub_c rfl (sub_c rfl (sub_c rfl (sub_c rfl (sub_c rfl (sub_c rfl sub_n)))))) (Heap.le.refl _) ?_
    rintro _ _ H1 ⟨j, K2, q2, t2, hj, rfl, hI, hle, hm5n, hm5, hlive2, hfr2, rfl⟩
    have hdl := pDirect_len M c
    have hql := hI.qlen
    have hq1 : 1 ≤ q2.length := by obtain ⟨r, h, _⟩ := hI.row; rw [h]; simp
    simp only [List.length_cons] at hql hmeas
    refine AWP.seq ?_
    -- region 6
    refine AWP.region ?_
    refine AList.p rfl (pure_lss (.tmp _ _ rfl) (.tmp _ _ rfl)) ?_
    refine AList.nil ?_
    refine Next.go ?_
    refine AWP.seq ?_
    -- c1
    refine AWP.cond (.tmp _ _ rfl) (fun hc24 => ?_) (fun hc24 => ?_)
    · try simp only [decide_eq_true_eq] at hc24
      refine AWP.skip ?_
      refine Next.go ?_
      refine AWP.seq ?_
      refine AWP.block ?_
      refine AWP.seq ?_
      -- region 7
      refine AWP.region ?_
      first | (refine AList.p rfl (pure_indexL Try.underlying23 Try.sizeOf3 (.tmp _ _ rfl) (.tmp _ _ rfl) (by omega) (by omega)) ?_) | (refine AList.p rfl (pure_indexM Try.underlying23 Try.sizeOf3 (.tmp _ _ rfl) (.tmp _ _ rfl) (by omega) (by omega)) ?_)
      first | (refine AList.p rfl (pure_load1 Try.isAgg3 (.tmp _ _ rfl)) ?_) | (refine AList.s rfl (step_load1 Try.isAgg3 (.tmp _ _ rfl) (by first | assumption | exact (by assumption : Heap.le _ _).objs _ _ (by assumption) | exact Heap.objs_set_same _ _ _ | exact (Heap.objs_set_ne _ _ (by assumption)).trans (Heap.objs_set_same _ _ _) | exact (Heap.objs_set_ne _ _ (by assumption)).trans ((Heap.objs_set_ne _ _ (by assumption)).trans (Heap.objs_set_same _ _ _)) | exact (Heap.objs_set_ne _ _ (by assumption)).trans (by assumption)) rfl) ?_; rintro _ _ ⟨rfl, hH⟩; obtain rfl := hH.symm)
      refine AList.p rfl (pure_assign (.tmp _ _ rfl)) ?_
      refine AList.nil ?_
      refine Next.go ?_
      refine AWP.seq ?_
      simp only [Int.toNat_natCast]
      generalize hx : (pDirect M c)[j]'(by omega) = x
      have hg := hI.get (by omega) x
      -- region 8
      refine AWP.region ?_
      refine AList.p rfl (pure_move (.tmp _ _ rfl)) ?_
      refine AList.p rfl (pure_move (.tmp _ _ rfl)) ?_
      refine AList.s rfl (step_lookup Try.underlying64 Try.underlying3 Try.zeroValue3 (show ∀ g, RelV g (.int .i64 0) _ from fun _ => .int _ _) (.tmp _ _ rfl) (.tmp _ _ rfl) (hm5)) ?_
      rintro _ _ ⟨hv, hH⟩
      rw [kget_kents] at hv
      obtain rfl := hv
      obtain rfl := hH.symm
      refine AList.p rfl (pure_add (.tmp _ _ rfl) ev_int (by omega)) ?_
      refine AList.s0 (step_mapUpdate Try.underlying64 Try.underlying3 (.tmp _ _ rfl) (.tmp _ _ rfl) (.tmp _ _ rfl) hm5) ?_
      rintro _ _ ⟨rfl, hH⟩
      obtain rfl := hH.symm
      rw [mset_kents]
      have hle8 := Heap.le_set_new hle hm5n (.map (ents .i64 (kents (kSet K2 x (kGet K2 x + 1)))))
      refine AList.nil ?_
      refine Next.go ?_
      refine AWP.seq ?_
      -- region 9
      refine AWP.region ?_
      refine AList.p rfl (pure_move (.tmp _ _ rfl)) ?_
      refine AList.p rfl (pure_move (.tmp _ _ rfl)) ?_
      refine AList.s rfl (step_lookup Try.underlying64 Try.underlying3 Try.zeroValue3 (show ∀ g, RelV g (.int .i64 0) _ from fun _ => .int _ _) (.tmp _ _ rfl) (.tmp _ _ rfl) (Heap.objs_set_same _ _ _)) ?_
      rintro _ _ ⟨hv, hH⟩
      rw [kget_kents, kGet_set] at hv
      obtain rfl := hv
      obtain rfl := hH.symm
      refine AList.p rfl (pure_eql (.tmp _ _ rfl) ev_int) ?_
      refine AList.nil ?_
      refine Next.go ?_
      -- c2
      refine AWP.cond (.tmp _ _ rfl) (fun hc34 => ?_) (fun hc34 => ?_)
      · try simp only [decide_eq_true_eq] at hc34
        -- region 10
        refine AWP.region ?_
        refine AList.p rfl (pure_move (.tmp _ _ rfl)) ?_
        refine AList.p rfl (pure_move (.tmp _ _ rfl)) ?_
        refine AList.s rfl (step_bs1 Try.underlying23 Try.sizeOf3 Try.zeroValue3 rfl (.tmp _ _ rfl) (.inl rfl) ⟨rfl, rfl⟩) ?_
        rintro _ _ ⟨rfl, hH⟩
        obtain rfl := hH.symm
        refine AList.s rfl (step_append Try.underlying23 Try.underlying23 Try.sizeOf3 Try.typeInfo3 Try.zeroValue3 rfl (by decide) (.tmp _ _ rfl) (.tmp _ _ rfl) (by exact .own _ hlive2) (by show (_ + _) * 8 ≤ _; simp; omega) (by repeat' (first | exact row_int _ | exact row_n | exact row_c ⟨rfl, rfl⟩ row_n | exact row_drop (row_int _) | exact row_take (row_int _) | refine row_app ?_ ?_)) (by repeat' (first | exact row_int _ | exact row_n | exact row_c ⟨rfl, rfl⟩ row_n | exact row_drop (row_int _) | exact row_take (row_int _) | refine row_app ?_ ?_))) ?_
        rintro _ _ ⟨t38, ht38, rfl, hH⟩
        obtain rfl := hH.symm
        have hf38 := Heap.fresh_of hle8 ht38
        have hle38 := Heap.le_in (Heap.le_out (t := t2) hle8 (by assumption)) t38
        refine AList.p rfl (pure_assign (.tmp _ _ rfl)) ?_
        refine AList.nil ?_
        refine Block.go ?_
        refine Next.go ?_
        -- region 11
        refine AWP.region ?_
        refine AList.p rfl (pure_add (.tmp _ _ rfl) ev_int (by omega)) ?_
        refine AList.p rfl (pure_move (.tmp _ _ rfl)) ?_
        refine AList.nil ?_
        refine Next.go ?_
        refine Round.mk (J := paft_K b m9 M l (pDirect M c) (kKeys K) (c :: rest) (((M.length + l.length - k : Nat) : Int) * 10000) H) ⟨j + 1, _, _, t38, by omega, rfl, by have := hI.step (by omega) (by omega) hdh; rw [hx, if_pos hc34] at this; exact this, hle38, hm5n, Heap.objs_set_same _ _ _, Heap.toks_live_same _ _, hf38, rfl⟩ (sub_c rfl (sub_c rfl (sub_e rfl (slice_eq (by simp)) (sub_c rfl (sub_c rfl (sub_c rfl sub_n)))))) (Heap.le.refl _) (by omega)
      · try simp only [decide_eq_false_iff_not] at hc34
        refine AWP.skip ?_
        refine Block.go ?_
        refine Next.go ?_
        -- region 11
        refine AWP.region ?_
        refine AList.p rfl (pure_add (.tmp _ _ rfl) ev_int (by omega)) ?_
        refine AList.p rfl (pure_move (.tmp _ _ rfl)) ?_
        refine AList.nil ?_
        refine Next.go ?_
        refine Round.mk (J := paft_K b m9 M l (pDirect M c) (kKeys K) (c :: rest) (((M.length + l.length - k : Nat) : Int) * 10000) H) ⟨j + 1, _, _, t2, by omega, rfl, by have := hI.step (by omega) (by omega) hdh; rw [hx, if_neg hc34] at this; exact this, hle8, hm5n, Heap.objs_set_same _ _ _, hlive2, hfr2, rfl⟩ (sub_c rfl (sub_c rfl (sub_c rfl (sub_c rfl (sub_c rfl (sub_c rfl sub_n)))))) (Heap.le.refl _) (by omega)
    · try simp only [decide_eq_false_iff_not, Int.not_lt] at hc24
      refine AWP.exit ?_
      refine Next.ex ?_
      refine Next.ex ?_
      refine Block.hit ?_
      refine Block.go ?_
      refine Next.go ?_
      -- region 4
      refine AWP.region ?_
      refine AList.p rfl (pure_move (.tmp _ _ rfl)) ?_
      refine AList.p rfl (pure_sliceLoL Try.underlying23 Try.sizeOf3 (.tmp _ _ rfl) ev_int (by omega) (by omega)) ?_
      refine AList.p rfl (pure_assign (.tmp _ _ rfl)) ?_
      refine AList.nil ?_
      refine Next.go ?_
      have hjd : j = (pDirect M c).length := by omega
      subst hjd
      obtain ⟨k', hk', hQ2⟩ := hQ.next (fun y => mem_pDirect M c y) (Nat.le_trans (pDirect_len M c) hM) hI
      refine Round.mk (J := paft_J b m9 M l H) ⟨K2, q2.drop 1, t2, rfl, hQ2, hle, hm5n, hm5, hlive2, hfr2⟩ (sub_c rfl (sub_c rfl (sub_c rfl sub_n))) (Heap.le.refl _) (by omega)
  · try simp only [decide_eq_false_iff_not, Int.not_lt] at hc14
    refine AWP.exit ?_
    refine Next.ex ?_
    refine Next.ex ?_
    refine Block.hit ?_
    refine Next.go ?_
    refine AWP.seq ?_
    -- region 12
    refine AWP.region ?_
    refine AList.p rfl (pure_move (.tmp _ _ rfl)) ?_
    refine AList.s rfl (step_call0 Try.call35 (.cons (.tmp _ _ rfl) .nil) (KeysI_calls _ _)) ?_
    rintro _ _ ⟨q9, hq9, rfl, hH⟩
    obtain rfl := hH.symm
    have hne : m9 ≠ q9 := by rintro rfl; rw [hm5] at hq9; cases hq9
    refine AList.s rfl (step_call0 Try.call34 (.cons (.tmp _ _ rfl) .nil) (sorted_ok 58 64 m9 q9 (kents K) _ (.inl rfl) (by rw [kents_len]; omega) (by rw [kents_keys]; exact hQ.nodup) (by rw [kents_keys]; exact fun x hx => hk.2 x (hQ.hang x hx).mem) (Heap.objs_set_same _ _ _) ((Heap.objs_set_ne _ _ hne).trans hm5))) ?_
    rintro _ _ ⟨rfl, hH⟩
    obtain rfl := hH.symm
    refine AList.p rfl (pure_assign (.tmp _ _ rfl)) ?_
    refine AList.nil ?_
    refine Next.go ?_
    refine AWP.ret ?_
    -- ret 0
    refine Ret.go (.cons (.tmp _ _ rfl) .nil) _ (hle.trans (Heap.le_set hq9 _)) ?_
    have hq0 : q = [] := by cases q with | nil => rfl | cons c r => simp at hc14; omega
    subst hq0
    exact ⟨kKeys K, hQ.nodup, hQ.done, by rw [kents_keys]; rfl, rfl⟩

end Go.Proofs.Ytdibiongjkmlpaa
