/-
  Plain laws of the six statements.
-/
import Derived.Test.YtdibiongjkmlpaaGr
namespace Go.Proofs.Ytdibiongjkmlpaa
open Go Go.RowKit
theorem same_e (a b : List Int) (ta tb : Tail) (H : Heap) (h : a = b) : ACall Try.prog 12 [.slice 1 (a.map (.int .i64)) ta, .slice 1 (b.map (.int .i64)) tb] H fun x H' => x = .bool true ∧ H' = H :=
  len_max 0 rfl fun hl => (same_calls a b ta tb (by simpa using hl) H).mono fun _ _ ⟨hx, hH⟩ => ⟨by rw [hx, decide_eq_true h], hH⟩
theorem sameAreas_e (l q : List Area) (tl tl2 : Tail) (hl : l.length ≤ 1000) (H : Heap) (h : l = q) : ACall Try.prog 24 [.slice 8 (l.map Area.av) tl, .slice 8 (q.map Area.av) tl2] H fun x H' => x = .bool true ∧ H' = H :=
  (sameAreas_calls l q tl tl2 (by omega) H).mono fun _ _ ⟨hx, hH⟩ => ⟨by rw [hx, decide_eq_true h], hH⟩
theorem has_e (l : List Int) (n : Int) (tl : Tail) (H : Heap) : ACall Try.prog 17 [.slice 1 (l.map (.int .i64)) tl, .int .i64 n] H fun x H' => x = .bool (decide (n ∈ l)) ∧ H' = H :=
  len_max 0 rfl fun hl => Has_calls l n tl (by simpa using hl) H
theorem has_t (l : List Int) (n : Int) (tl : Tail) (H : Heap) (h : n ∈ l) : ACall Try.prog 17 [.slice 1 (l.map (.int .i64)) tl, .int .i64 n] H fun x H' => x = .bool true ∧ H' = H :=
  (has_e l n tl H).mono fun _ _ ⟨hx, hH⟩ => ⟨by rw [hx, decide_eq_true h], hH⟩
theorem has_f (l : List Int) (n : Int) (tl : Tail) (H : Heap) (h : n ∉ l) : ACall Try.prog 17 [.slice 1 (l.map (.int .i64)) tl, .int .i64 n] H fun x H' => x = .bool false ∧ H' = H :=
  (has_e l n tl H).mono fun _ _ ⟨hx, hH⟩ => ⟨by rw [hx, decide_eq_false h], hH⟩
theorem someL_len (l : List Int) : (someL l).length ≤ 40 := by simp [someL]; omega
theorem someL_64 {l : List Int} (h : I64s l) : I64s (someL l) := by
  intro x hx
  obtain ⟨y, hy, rfl⟩ := List.mem_map.1 hx
  have hy64 := h y (List.mem_of_mem_take hy)
  unfold someF
  split
  · exact hy64
  · have := atRaw_bd y hy64; omega
theorem GOK.hA {M : PG} {G : List Node} {n : Nat} (h : GOK M G n) : ∀ c, (pAreas M c).length ≤ 10000 := fun c => Nat.le_trans (h.areasM c) (by omega)
theorem GOK.hM {M : PG} {G : List Node} {n : Nat} (h : GOK M G n) (hn : n ≤ 1000) : M.length ≤ 10000 := by have := h.lenM; omega
theorem GOK.hG {M : PG} {G : List Node} {n : Nat} (h : GOK M G n) (hn : n ≤ 1000) : G.length ≤ 10000 := by have := h.lenG; omega
theorem GOK.hAG {M : PG} {G : List Node} {n : Nat} (h : GOK M G n) : ∀ x, x ∈ G → x.areas.length ≤ 10000 := fun x hx => Nat.le_trans (h.areasG x hx) (by omega)
theorem GOK.h64c {M : PG} {G : List Node} {n : Nat} (h : GOK M G n) : I64s (rCells G) := cells_64 fun _ hx => h.tie.cellOf hx
theorem GOK.hk {M : PG} {G : List Node} {n : Nat} (h : GOK M G n) : (M.map (·.1)).Nodup ∧ I64s (M.map (·.1)) := ⟨h.tie.nodup, fun x hx => h.h64c x ((h.tie.keys x).1 hx)⟩
/-- Both Afters answer alike. -/
theorem Tie.after {M : PG} {G : List Node} (h : Tie M G) {l inn inn2 : List Int} (hn : inn.Nodup) (h1 : ∀ c, c ∈ inn ↔ Hangs (pNeeds M) (M.map (·.1)) l c) (h2 : ∀ c, c ∈ inn2 ↔ Hangs (rNeeds G) (rCells G) l c) :
    inn.mergeSort (fun x y => decide (x ≤ y)) = rising inn2 :=
  sorted_rising hn (fun x => by rw [h1, h2, h.hangs]) fun x hx => h.cellOf ((h.keys x).1 ((h1 x).1 hx).mem)
theorem sorted_mem (l : List Int) (x : Int) : x ∈ l.mergeSort (fun x y => decide (x ≤ y)) ↔ x ∈ l := List.mem_mergeSort
theorem Hangs.trans {needs : Int → Int → Bool} {cells l a : List Int} (ha : ∀ x, x ∈ a → Hangs needs cells l x) {x : Int} (h : Hangs needs cells a x) : Hangs needs cells l x := by
  induction h with
  | one hk hc hn => exact .more hk (ha _ hc) hn
  | more hk _ hn ih => exact .more hk ih hn

/-! ### the order -/
theorem order_spec (needs : Int → Int → Bool) : ∀ (n : Nat) (o left : List Int), left.length ≤ n → ∃ cs b, order (fun x l => l.any (needs x)) n o left = (o ++ cs, b) ∧ (cs ++ b).Perm left ∧ cs.Pairwise (fun x y => needs x y = false) ∧ (∀ x, x ∈ cs → needs x x = false) ∧
    ∀ x, x ∈ b → b.any (needs x) = true
  | 0, o, left, hl => by
    have : left = [] := List.eq_nil_of_length_eq_zero (by omega)
    subst this
    exact ⟨[], [], by simp [order], by simp, List.Pairwise.nil, fun x hx => by simp at hx, fun x hx => by simp at hx⟩
  | n + 1, o, left, hl => by
    by_cases hall : left.all (fun x => left.any (needs x)) = true
    · refine ⟨[], left, by rw [order_stop _ _ _ _ hall]; simp, by simp, List.Pairwise.nil, fun x hx => by simp at hx, fun x hx => by simpa using List.all_eq_true.1 hall x hx⟩
    · have hany : left.any (fun x => !left.any (needs x)) = true := by
        cases h : left.any (fun x => !left.any (needs x)) with
        | true => rfl
        | false => exact absurd (by rw [List.all_eq_true]; intro x hx; simpa using List.any_eq_false.1 h x hx) hall
      obtain ⟨hi0, hp0⟩ := lead_at hany
      have hl' : lead (fun x => !!left.any (needs x)) left = lead (fun x => left.any (needs x)) left := by congr 1; funext x; simp
      obtain ⟨i, hi, hil, hp⟩ : ∃ (i : Nat) (hi : i < left.length), i = lead (fun x => !!left.any (needs x)) left ∧ (!left.any (needs left[i])) = true := ⟨_, hi0, rfl, hp0⟩
      rw [hl'] at hil
      have hstep := order_step (fun x l => l.any (needs x)) n o left i hi hil
      have hel : (left.eraseIdx i).length = left.length - 1 := by rw [List.length_eraseIdx]; simp [hi]
      obtain ⟨cs, b, h1, h2, h3, h4, h5⟩ := order_spec needs n (o ++ [left[i]]) (left.eraseIdx i) (by omega)
      have hno : ∀ y, y ∈ left → needs left[i] y = false := fun y hy => by
        simp only [Bool.not_eq_true'] at hp
        simpa using List.any_eq_false.1 hp y hy
      have hperm : (left[i] :: left.eraseIdx i).Perm left := by
        rw [List.eraseIdx_eq_take_drop_succ]
        have e : left = left.take i ++ left[i] :: left.drop (i + 1) := by rw [← List.drop_eq_getElem_cons hi, List.take_append_drop]
        exact (List.perm_middle.symm).trans (.of_eq e.symm)
      refine ⟨left[i] :: cs, b, by rw [hstep, h1]; simp, ?_, ?_, ?_, h5⟩
      · exact (h2.cons left[i]).trans hperm
      · rw [List.pairwise_cons]
        refine ⟨fun y hy => hno y ?_, h3⟩
        exact hperm.mem_iff.1 (List.mem_cons_of_mem _ (h2.mem_iff.1 (List.mem_append_left _ hy)))
      · intro x hx
        rcases List.mem_cons.1 hx with rfl | hx
        · exact hno _ (List.getElem_mem hi)
        · exact h4 x hx
theorem pNeeds_key {M : PG} {k c : Int} (h : pNeeds M k c = true) : k ∈ M.map (·.1) := by
  rw [← pGet_isSome]
  unfold pNeeds pAreas at h
  cases hg : pGet M k with
  | none => rw [hg] at h; simp at h
  | some x => rfl
theorem rising_of_perm {l r : List Int} (h : ∀ x, x ∈ l ↔ x ∈ rising r) : rising l = rising r :=
  (rising_spec l).1.ext (rising_spec r).1 fun x => by
    rw [(rising_spec l).2, h x]
    exact ⟨fun h => h.1, fun hx => ⟨hx, ((rising_spec r).2 x |>.1 hx).2⟩⟩
/-- What the statement on the order asks. -/
theorem stands (M : PG) (c : List Int) : ∃ a b, order (pNeedsOne M) (pRising c).length [] (pRising c) = (a, b) ∧ rising (a ++ b) = rising c ∧ a.length + b.length = (rising c).length ∧
    (∀ (i k : Nat) (hi : i < a.length) (hk : k < a.length), k ≤ i → a[k] ∉ pDirect M a[i]) ∧ (∀ x, x ∈ b → (b.any fun y => decide (x ∈ pDirect M y)) = true) ∧ a.length + b.length ≤ c.length ∧ (∀ x, x ∈ a ++ b → x ∈ c) := by
  obtain ⟨a, b, h1, h2, h3, h4, h5⟩ := order_spec (pNeeds M) (pRising c).length [] (pRising c) (Nat.le_refl _)
  have hlen := h2.length_eq
  rw [List.length_append] at hlen
  refine ⟨a, b, by rw [show pNeedsOne M = fun x l => l.any (pNeeds M x) from rfl, h1]; rfl, ?_, ?_, ?_, ?_, ?_, ?_⟩
  · refine rising_of_perm fun x => ?_
    rw [h2.mem_iff, pRising_eq]
  · rw [hlen, pRising_eq]
  · intro i k hi hk hki hm
    have hn := ((mem_pDirect M a[i] a[k]).1 hm).2
    rcases Nat.lt_or_ge k i with h | h
    · have := List.pairwise_iff_getElem.1 h3 k i hk hi h
      rw [hn] at this; cases this
    · have : k = i := by omega
      subst this
      rw [h4 _ (List.getElem_mem hk)] at hn; cases hn
  · intro x hx
    obtain ⟨y, hy, hn⟩ := List.any_eq_true.1 (h5 x hx)
    exact List.any_eq_true.2 ⟨y, hy, decide_eq_true ((mem_pDirect M y x).2 ⟨pNeeds_key hn, hn⟩)⟩
  · rw [hlen]; exact pRising_len c
  · intro x hx; exact pRising_mem (h2.mem_iff.1 hx)

/-! ### areas set anew, and taken away -/
def MOK (M : PG) : Prop := ∀ e, e ∈ M → e.2 ≠ [] ∧ (e.2.any fun x => !x.ok) = false
theorem mem_pPut {M : PG} {c : Int} {l : List Area} {e : Int × List Area} (h : e ∈ pPut M c l) : e ∈ M ∨ e = (c, l) := by
  induction M with
  | nil => simp [pPut] at h; exact .inr h
  | cons d M ih =>
    obtain ⟨x, y⟩ := d
    simp only [pPut] at h
    split at h
    · rcases List.mem_cons.1 h with h | h
      · exact .inr h
      · exact .inl (List.mem_cons_of_mem _ h)
    · rcases List.mem_cons.1 h with h | h
      · subst h; exact .inl (List.mem_cons_self ..)
      · exact (ih h).imp (List.mem_cons_of_mem _) id
theorem MOK.set {M : PG} (h : MOK M) (a : Int) (l : List Area) : MOK (pSet M a l) := by
  unfold pSet
  split
  · rename_i h0
    split
    · intro e he; exact h e ((pDel_sub M a).subset he)
    · rename_i hl
      intro e he
      rcases mem_pPut he with he | rfl
      · exact h e he
      · refine ⟨fun hn => hl (by simp only at hn; rw [hn]; rfl), ?_⟩
        unfold pErr at h0
        split at h0
        · cases h0
        · split at h0
          · cases h0
          · rename_i ha; simpa using ha
  · exact h
theorem mM_ok (l : List RNode) : MOK (mM l) := by
  have key : ∀ (l : List RNode) (M : PG), MOK M → MOK (l.foldl (fun M r => pSet M (nodeAt r) (areasR r)) M) := by
    intro l
    induction l with
    | nil => intro M h; exact h
    | cons r l ih => intro M h; exact ih _ (h.set _ _)
  exact key l [] fun e he => by simp at he
theorem pGet_mem {M : PG} {c : Int} {x : List Area} (h : pGet M c = some x) : (c, x) ∈ M := by
  induction M with
  | nil => simp [pGet] at h
  | cons e M ih =>
    obtain ⟨d, y⟩ := e
    simp only [pGet] at h
    split at h
    · rename_i hd; subst hd; cases h; exact List.mem_cons_self ..
    · exact List.mem_cons_of_mem _ (ih h)
theorem pPut_same {M : PG} {c : Int} {x : List Area} (h : pGet M c = some x) : pPut M c x = M := by
  induction M with
  | nil => simp [pGet] at h
  | cons e M ih =>
    obtain ⟨d, y⟩ := e
    simp only [pGet] at h
    simp only [pPut]
    split at h
    · rename_i hd; subst hd; cases h; rw [if_pos rfl]
    · rename_i hd; rw [if_neg hd, ih h]
theorem pDel_none {M : PG} {c : Int} (h : pGet M c = none) : pDel M c = M := by
  induction M with
  | nil => rfl
  | cons e M ih =>
    obtain ⟨d, y⟩ := e
    simp only [pGet] at h
    simp only [pDel]
    split at h
    · cases h
    · rename_i hd; rw [if_neg hd, ih h]
theorem areas_err {M M' : PG} (h : MOK M) {n : Nat} (hM : M'.length ≤ n) (hn : n < 2000) (hA : ∀ c, (pAreas M c).length ≤ 500) {a : Int} (ha : isCell a = true) : pErr M' a (pAreas M a) = 0 := by
  unfold pErr
  rw [At_ok, ha, if_neg (by decide)]
  have hall : ((pAreas M a).any fun x => !x.ok) = false := by
    unfold pAreas
    cases hg : pGet M a with
    | none => rfl
    | some x => exact (h _ (pGet_mem hg)).2
  rw [hall, if_neg (by decide), if_neg]
  have := hA a
  omega
theorem areas_same {M : PG} (h : MOK M) {n : Nat} (hM : M.length ≤ n) (hn : n < 2000) (hA : ∀ c, (pAreas M c).length ≤ 500) {a : Int} (ha : isCell a = true) : pSet M a (pAreas M a) = M := by
  unfold pSet
  rw [if_pos (areas_err h hM hn hA ha)]
  cases hg : pGet M a with
  | none =>
    have : pAreas M a = [] := by unfold pAreas; rw [hg]; rfl
    rw [this, if_pos List.length_nil, pDel_none hg]
  | some x =>
    have hx : pAreas M a = x := by unfold pAreas; rw [hg]; rfl
    have := (h _ (pGet_mem hg)).1
    rw [hx, if_neg (by simpa using this), pPut_same hg]
theorem none_err (M : PG) {a : Int} (ha : isCell a = true) : pErr M a [] = 0 := by
  unfold pErr
  rw [At_ok, ha, if_neg (by decide), if_neg (by simp), if_neg (by simp)]
theorem none_set (M : PG) {a : Int} (ha : isCell a = true) : pSet M a [] = pDel M a := by
  unfold pSet
  rw [if_pos (none_err M ha), if_pos List.length_nil]
theorem del_areas {M : PG} (hn : (M.map (·.1)).Nodup) (a : Int) : pAreas (pDel M a) a = [] := by
  unfold pAreas
  rw [pGet_del hn, if_pos rfl]; rfl
theorem del_needs {M : PG} (hn : (M.map (·.1)).Nodup) (a : Int) {k c : Int} (h : pNeeds (pDel M a) k c = true) : k ≠ a ∧ pNeeds M k c = true := by
  unfold pNeeds pAreas at h ⊢
  rw [pGet_del hn] at h
  by_cases hk : a = k
  · rw [if_pos hk] at h; simp at h
  · rw [if_neg hk] at h; exact ⟨fun e => hk e.symm, h⟩
theorem del_keys {M : PG} (hn : (M.map (·.1)).Nodup) (a : Int) {k : Int} (h : k ∈ (pDel M a).map (·.1)) : k ≠ a ∧ k ∈ M.map (·.1) := by
  rw [← pGet_isSome, pGet_del hn] at h
  by_cases hk : a = k
  · rw [if_pos hk] at h; cases h
  · rw [if_neg hk] at h; exact ⟨fun e => hk e.symm, (pGet_isSome M k).1 h⟩
theorem del_hangs {M : PG} (hn : (M.map (·.1)).Nodup) (a : Int) {l : List Int} {x : Int} (h : Hangs (pNeeds (pDel M a)) ((pDel M a).map (·.1)) l x) : x ≠ a ∧ Hangs (pNeeds M) (M.map (·.1)) l x := by
  refine ⟨(del_keys hn a h.mem).1, ?_⟩
  induction h with
  | one hk hc hnn => exact .one (del_keys hn a hk).2 hc (del_needs hn a hnn).2
  | more hk _ hnn ih => exact .more (del_keys hn a hk).2 ih (del_needs hn a hnn).2
theorem back_get {M : PG} (h : MOK M) (hn : (M.map (·.1)).Nodup) {n : Nat} (hM : M.length ≤ n) (hn2 : n < 1999) (hA : ∀ c, (pAreas M c).length ≤ 500) {a : Int} (ha : isCell a = true) (c : Int) : pGet (pSet (pDel M a) a (pAreas M a)) c = pGet M c := by
  have hsub := (pDel_sub M a).length_le
  unfold pSet
  rw [if_pos (areas_err (M' := pDel M a) h (n := n) (by omega) (by omega) hA ha)]
  have hnd : ((pDel M a).map (·.1)).Nodup := hn.sublist ((pDel_sub M a).map _)
  cases hg : pGet M a with
  | none =>
    have : pAreas M a = [] := by unfold pAreas; rw [hg]; rfl
    rw [this, if_pos List.length_nil, pDel_none (M := pDel M a) (by rw [pDel_none hg]; exact hg), pDel_none hg]
  | some x =>
    have hx : pAreas M a = x := by unfold pAreas; rw [hg]; rfl
    have := (h _ (pGet_mem hg)).1
    rw [hx, if_neg (by simpa using this), pGet_put, pGet_del hn]
    by_cases hc : a = c
    · subst hc; rw [if_pos rfl, hg]
    · rw [if_neg hc, if_neg hc]
theorem get_hangs {M M' : PG} (h : ∀ c, pGet M' c = pGet M c) (l : List Int) (x : Int) : Hangs (pNeeds M') (M'.map (·.1)) l x ↔ Hangs (pNeeds M) (M.map (·.1)) l x := by
  have hk : ∀ c, c ∈ M'.map (·.1) ↔ c ∈ M.map (·.1) := fun c => by rw [← pGet_isSome, ← pGet_isSome, h]
  have hn : pNeeds M' = pNeeds M := by funext k c; unfold pNeeds pAreas; rw [h]
  rw [hn]
  constructor
  · intro hx
    induction hx with
    | one a b c => exact .one ((hk _).1 a) b c
    | more a _ c ih => exact .more ((hk _).1 a) ih c
  · intro hx
    induction hx with
    | one a b c => exact .one ((hk _).2 a) b c
    | more a _ c ih => exact .more ((hk _).2 a) ih c
theorem sorted_same {a b : List Int} (ha : a.Nodup) (hb : b.Nodup) (h : ∀ x, x ∈ a ↔ x ∈ b) : a.mergeSort (fun x y => decide (x ≤ y)) = b.mergeSort (fun x y => decide (x ≤ y)) :=
  (sorted_up ha).ext (sorted_up hb) fun x => by rw [List.mem_mergeSort, List.mem_mergeSort, h x]
theorem up_at {a : List Int} (h : Up a) {i j : Nat} (hi : i < a.length) (hj : j < a.length) (hij : j < i) : ¬ a[i] ≤ a[j] := by
  have := List.pairwise_iff_getElem.1 h j i hj hi hij
  omega
theorem set_d (b m : Nat) (M : PG) (hA : ∀ c, (pAreas M c).length ≤ 10000) (at_ : Int) (hc : In64 at_) (l : List Area) (tl : Tail) (hl : l.length ≤ 10000) (H : Heap) (hp : PBox H b m M) (he : pErr M at_ l = 0) (M' : PG) (hM : pSet M at_ l = M') :
    ACall Try.prog 28 [.ptr (some ⟨b, 0, none⟩), .int .i64 at_, .slice 8 (l.map Area.av) tl] H fun x H' => x = .int .i64 0 ∧ PBox H' b m M' ∧ Turned m H H' :=
  (pSet_calls b m M hA at_ hc l tl hl H hp).mono fun _ _ ⟨hx, hH⟩ => by
    subst hH; subst hM
    exact ⟨by rw [hx, he], hp.set _, Turned.set _ _ _⟩
theorem del_le {M : PG} (hn : (M.map (·.1)).Nodup) (a : Int) {n : Nat} (h : ∀ c, (pAreas M c).length ≤ n) (c : Int) : (pAreas (pDel M a) c).length ≤ n := by
  have := h c
  unfold pAreas at this ⊢
  rw [pGet_del hn]
  split
  · simp
  · exact this
theorem del_k {M : PG} (hk : (M.map (·.1)).Nodup ∧ I64s (M.map (·.1))) (a : Int) : ((pDel M a).map (·.1)).Nodup ∧ I64s ((pDel M a).map (·.1)) :=
  ⟨hk.1.sublist ((pDel_sub M a).map _), fun x hx => hk.2 x (del_keys hk.1 a hx).2⟩
theorem set_nodup {M : PG} (hn : (M.map (·.1)).Nodup) (a : Int) (l : List Area) : ((pSet M a l).map (·.1)).Nodup := by
  unfold pSet
  split
  · split
    · exact hn.sublist ((pDel_sub M a).map _)
    · rw [pPut_keys]
      split
      · exact hn
      · rename_i h
        rw [List.nodup_append]
        exact ⟨hn, by simp, by rintro x hx y hy rfl; simp at hy; subst hy; exact h hx⟩
  · exact hn
theorem get_k {M M' : PG} (h : ∀ c, pGet M' c = pGet M c) (hn : (M'.map (·.1)).Nodup) (hk : I64s (M.map (·.1))) : (M'.map (·.1)).Nodup ∧ I64s (M'.map (·.1)) :=
  ⟨hn, fun x hx => hk x (by rw [← pGet_isSome, ← h, pGet_isSome]; exact hx)⟩
theorem get_areas {M M' : PG} (h : ∀ c, pGet M' c = pGet M c) (c : Int) : pAreas M' c = pAreas M c := by unfold pAreas; rw [h]
theorem hangs_len {needs : Int → Int → Bool} {cells l a : List Int} (h : Up a) (hm : ∀ x, x ∈ a ↔ Hangs needs cells l x) : a.length ≤ cells.length := nodup_len h.nodup fun x hx => ((hm x).1 hx).mem
theorem hangs_reach {M : PG} {l a : List Int} (hm : ∀ x, x ∈ a ↔ Hangs (pNeeds M) (M.map (·.1)) l x) {x : Int} (hx : x ∈ a) : ((l ++ a).any fun y => decide (x ∈ pDirect M y)) = true := by
  rw [List.any_eq_true]
  cases (hm x).1 hx with
  | one hk hc hn => exact ⟨_, List.mem_append_left _ hc, decide_eq_true ((mem_pDirect M _ _).2 ⟨hk, hn⟩)⟩
  | more hk hc hn => exact ⟨_, List.mem_append_right _ ((hm _).2 hc), decide_eq_true ((mem_pDirect M _ _).2 ⟨hk, hn⟩)⟩
theorem atRaw_In64 {n : Int} (h : 0 ≤ n ∧ n < 1000) : In64 n := by unfold In64; omega
end Go.Proofs.Ytdibiongjkmlpaa
