/-
  Plain laws: rising lists; the program's graph and the reference's hold the same.
-/
import Derived.Test.YtdibiongjkmlpaaGo
namespace Go.Proofs.Ytdibiongjkmlpaa
open Go Go.RowKit
def Up (l : List Int) : Prop := l.Pairwise (· < ·)
/-- Rising lists of the same numbers are the same. -/
theorem Up.ext : ∀ {a b : List Int}, Up a → Up b → (∀ x, x ∈ a ↔ x ∈ b) → a = b
  | [], [], _, _, _ => rfl
  | [], y :: b, _, _, h => by have := (h y).2 (by simp); simp at this
  | x :: a, [], _, _, h => by have := (h x).1 (by simp); simp at this
  | x :: a, y :: b, ha, hb, h => by
    have ha' := List.pairwise_cons.1 ha
    have hb' := List.pairwise_cons.1 hb
    have hxy : x = y := by
      rcases List.mem_cons.1 ((h x).1 (by simp)) with h1 | h1
      · exact h1
      · rcases List.mem_cons.1 ((h y).2 (by simp)) with h2 | h2
        · exact h2.symm
        · have := hb'.1 x h1; have := ha'.1 y h2; omega
    subst hxy
    have := Up.ext ha'.2 hb'.2 (fun z => by
      have hz := h z
      constructor
      · intro hm
        rcases List.mem_cons.1 (hz.1 (by simp [hm])) with h1 | h1
        · subst h1; have := ha'.1 z hm; omega
        · exact h1
      · intro hm
        rcases List.mem_cons.1 (hz.2 (by simp [hm])) with h1 | h1
        · subst h1; have := hb'.1 z hm; omega
        · exact h1)
    rw [this]
theorem Up.filter {l : List Int} (h : Up l) (p : Int → Bool) : Up (l.filter p) := List.Pairwise.filter p h
theorem Up.nodup {l : List Int} (h : Up l) : l.Nodup := h.imp fun hab => by omega
theorem sorted_up {l : List Int} (h : l.Nodup) : Up (l.mergeSort fun x y => decide (x ≤ y)) := by
  have h1 : (l.mergeSort fun x y => decide (x ≤ y)).Pairwise (fun a b => decide (a ≤ b) = true) := List.pairwise_mergeSort (fun a b c => by simp only [decide_eq_true_eq]; omega) (fun a b => by simp only [Bool.or_eq_true, decide_eq_true_eq]; omega) l
  have h2 : (l.mergeSort fun x y => decide (x ≤ y)).Nodup := (List.mergeSort_perm l _).nodup_iff.2 h
  exact (h1.and h2).imp fun ⟨ha, hb⟩ => by simp only [decide_eq_true_eq] at ha; omega
theorem sorted_le (l : List Int) : (l.mergeSort fun x y => decide (x ≤ y)).Pairwise (· ≤ ·) := by
  have h1 : (l.mergeSort fun x y => decide (x ≤ y)).Pairwise (fun a b => decide (a ≤ b) = true) := List.pairwise_mergeSort (fun a b c => by simp only [decide_eq_true_eq]; omega) (fun a b => by simp only [Bool.or_eq_true, decide_eq_true_eq]; omega) l
  exact h1.imp fun h => by simpa using h
theorem compact_mem_iff (l : List Int) (x : Int) : x ∈ Lib.compact l ↔ x ∈ l := by
  refine ⟨compact_mem, fun hx => ?_⟩
  unfold Lib.compact Lib.compactUpTo
  obtain ⟨j0, hj0, hx0⟩ := List.getElem_of_mem hx
  obtain ⟨j, ⟨hj, hxj⟩, hmin⟩ := least (p := fun j => ∃ h : j < l.length, l[j] = x) ⟨j0, hj0, hx0⟩
  refine List.mem_map.2 ⟨j, List.mem_filter.2 ⟨List.mem_range.2 hj, ?_⟩, by rw [getElem!_pos _ j (by simpa using hj)]; simpa using hxj⟩
  unfold Lib.keeps
  rw [decide_eq_true_eq]
  rcases Nat.eq_zero_or_pos j with h0 | h0
  · exact .inl h0
  · refine .inr fun he => ?_
    rw [getElem!_pos _ j (by simpa using hj), getElem!_pos _ (j - 1) (by simp; omega)] at he
    have := hmin (j - 1) ⟨by omega, by simp only [List.getElem_toArray] at he; rw [← he]; exact hxj⟩
    omega
theorem compact_up {l : List Int} (h : l.Pairwise (· ≤ ·)) : Up (Lib.compact l) := by
  unfold Lib.compact Lib.compactUpTo Up
  rw [List.pairwise_map]
  refine ((List.pairwise_lt_range (n := l.length)).filter _).imp_of_mem fun {i j} hi hj hij => ?_
  obtain ⟨hil, _⟩ := List.mem_filter.1 hi
  obtain ⟨hjl, hjk⟩ := List.mem_filter.1 hj
  have hil := List.mem_range.1 hil
  have hjl := List.mem_range.1 hjl
  unfold Lib.keeps at hjk
  rw [decide_eq_true_eq] at hjk
  have hne := hjk.resolve_left (by omega)
  rw [getElem!_pos _ j (by simpa using hjl), getElem!_pos _ (j - 1) (by simp; omega)] at hne
  rw [getElem!_pos _ j (by simpa using hjl), getElem!_pos _ i (by simpa using hil)]
  simp only [List.getElem_toArray] at hne ⊢
  have hp := List.pairwise_iff_getElem.1 h
  have h1 : l[j - 1] ≤ l[j] := hp (j - 1) j (by omega) hjl (by omega)
  have h2 : l[i] ≤ l[j - 1] := by
    rcases Nat.lt_or_ge i (j - 1) with h | h
    · exact hp i (j - 1) hil (by omega) h
    · have : i = j - 1 := by omega
      subst this; exact Int.le_refl _
  have h3 : l[j] ≠ l[j - 1] := hne
  omega
theorem At_neg (x : Int) : (!decide ((At x).col < 0)) = isCell x := by
  unfold At isCell
  split
  · rename_i h
    rcases h with h | h <;> simp <;> omega
  · rename_i h
    have h0 : 0 ≤ x.tmod 64 := Int.tmod_nonneg _ (by omega)
    have e1 : decide (x.tmod 64 < 0) = false := decide_eq_false (by omega)
    have e2 : decide (0 ≤ x) = true := decide_eq_true (by omega)
    have e3 : decide (x < 64000) = true := decide_eq_true (by omega)
    simp only [e1, e2, e3]; rfl
theorem pRising_up (l : List Int) : Up (pRising l) := compact_up (sorted_le _)
theorem pRising_iff (l : List Int) (x : Int) : x ∈ pRising l ↔ x ∈ l ∧ isCell x = true := by
  unfold pRising
  rw [compact_mem_iff, List.mem_mergeSort, List.mem_filter, At_neg]
theorem below_spec (x : Int) : ∀ {l : List Int}, Up l → (∀ y, y ∈ l.take (below x l) → y < x) ∧ (∀ y, y ∈ l.drop (below x l) → x ≤ y)
  | [], _ => ⟨fun y hy => by simp at hy, fun y hy => by simp at hy⟩
  | z :: l, h => by
    have h' := List.pairwise_cons.1 h
    unfold below
    rw [List.takeWhile_cons]
    by_cases hz : z < x
    · rw [if_pos (by simpa using hz)]
      obtain ⟨h1, h2⟩ := below_spec x (l := l) h'.2
      unfold below at h1 h2
      refine ⟨fun y hy => ?_, fun y hy => h2 y (by simpa using hy)⟩
      simp only [List.length_cons, List.take_succ_cons, List.mem_cons] at hy
      rcases hy with rfl | hy
      · exact hz
      · exact h1 y hy
    · rw [if_neg (by simpa using hz)]
      refine ⟨fun y hy => by simp at hy, fun y hy => ?_⟩
      simp only [List.length_nil, List.drop_zero, List.mem_cons] at hy
      rcases hy with rfl | hy
      · omega
      · have := h'.1 y hy; omega
theorem ins_spec (out : List Int) (x : Int) (h : Up out) : Up (ins out x) ∧ ∀ y, y ∈ ins out x ↔ y ∈ out ∨ (y = x ∧ isCell x = true) := by
  obtain ⟨h1, h2⟩ := below_spec x h
  have hsplit : out.take (below x out) ++ out.drop (below x out) = out := List.take_append_drop _ _
  unfold ins
  split
  · rename_i hc
    have hlt : ∀ y, y ∈ out.drop (below x out) → x < y := fun y hy => by
      have hle := h2 y hy
      rcases Int.lt_or_eq_of_le hle with h | h
      · exact h
      · subst h
        exfalso
        -- x itself stands behind: then it stands at once
        obtain ⟨i, hi, hiy⟩ := List.getElem_of_mem hy
        have hup := List.pairwise_iff_getElem.1 (List.Pairwise.sublist (List.drop_sublist (below x out) out) h)
        rcases Nat.eq_zero_or_pos i with h0 | h0
        · subst h0
          apply hc.2
          have hl : below x out < out.length := by simp at hi; omega
          rw [List.getElem?_eq_getElem hl]
          simpa using hiy
        · have := hup 0 i (by omega) hi h0
          have h3 := h2 _ (List.getElem_mem (show 0 < (out.drop (below x out)).length by omega))
          omega
    refine ⟨?_, fun y => ?_⟩
    · unfold Up
      rw [List.append_assoc, List.pairwise_append]
      refine ⟨List.Pairwise.sublist (List.take_sublist _ _) h, ?_, fun a ha b hb => ?_⟩
      · rw [List.singleton_append, List.pairwise_cons]
        exact ⟨hlt, List.Pairwise.sublist (List.drop_sublist _ _) h⟩
      · have := h1 a ha
        rw [List.singleton_append] at hb
        rcases List.mem_cons.1 hb with rfl | hb
        · exact this
        · have := hlt b hb; omega
    · have : y ∈ out ↔ y ∈ out.take (below x out) ∨ y ∈ out.drop (below x out) := by rw [← List.mem_append, hsplit]
      rw [this]
      simp only [List.append_assoc, List.mem_append, List.mem_singleton]
      constructor
      · rintro (h | h | h)
        · exact .inl (.inl h)
        · exact .inr ⟨h, hc.1⟩
        · exact .inl (.inr h)
      · rintro ((h | h) | ⟨h, _⟩)
        · exact .inl h
        · exact .inr (.inr h)
        · exact .inr (.inl h)
  · rename_i hc
    refine ⟨h, fun y => ⟨.inl, ?_⟩⟩
    rintro (hy | ⟨rfl, hy⟩)
    · exact hy
    · have : out[below y out]? = some y := by
        rcases Decidable.em (out[below y out]? = some y) with h | h
        · exact h
        · exact absurd ⟨hy, h⟩ hc
      exact List.mem_of_getElem? this
theorem rising_spec (l : List Int) : Up (rising l) ∧ ∀ y, y ∈ rising l ↔ y ∈ l ∧ isCell y = true := by
  have key : ∀ (l out : List Int), Up out → Up (l.foldl ins out) ∧ ∀ y, y ∈ l.foldl ins out ↔ y ∈ out ∨ (y ∈ l ∧ isCell y = true) := by
    intro l
    induction l with
    | nil => intro out h; exact ⟨h, fun y => by simp⟩
    | cons x l ih =>
      intro out h
      obtain ⟨h1, h2⟩ := ins_spec out x h
      obtain ⟨h3, h4⟩ := ih _ h1
      refine ⟨h3, fun y => ?_⟩
      rw [List.foldl_cons, h4 y, h2 y, List.mem_cons]
      constructor
      · rintro ((h | ⟨rfl, h⟩) | ⟨h, h'⟩)
        · exact .inl h
        · exact .inr ⟨.inl rfl, h⟩
        · exact .inr ⟨.inr h, h'⟩
      · rintro (h | ⟨rfl | h, h'⟩)
        · exact .inl (.inl h)
        · exact .inl (.inr ⟨rfl, h'⟩)
        · exact .inr ⟨h, h'⟩
  obtain ⟨h1, h2⟩ := key l [] .nil
  exact ⟨h1, fun y => by rw [show rising l = l.foldl ins [] from rfl, h2 y]; simp⟩
theorem pRising_eq (l : List Int) : pRising l = rising l :=
  (pRising_up l).ext (rising_spec l).1 fun x => by rw [pRising_iff, (rising_spec l).2]
/-- A set, sorted, is the rising list of it. -/
theorem sorted_rising {inn inn2 : List Int} (h : inn.Nodup) (hs : ∀ x, x ∈ inn ↔ x ∈ inn2) (hc : ∀ x, x ∈ inn → isCell x = true) : inn.mergeSort (fun x y => decide (x ≤ y)) = rising inn2 :=
  (sorted_up h).ext (rising_spec inn2).1 fun x => by
    rw [List.mem_mergeSort, (rising_spec inn2).2, ← hs x]
    exact ⟨fun h => ⟨h, hc x h⟩, fun h => h.1⟩

/-! ### the two graphs hold the same -/
def gGet (G : List Node) (c : Int) : Option (List Area) := (G.find? fun n => decide (n.at_ = c)).map (·.areas)
theorem rAreas_get (G : List Node) (c : Int) : rAreas G c = (gGet G c).getD [] := by
  unfold rAreas gGet
  cases G.find? fun n => decide (n.at_ = c) <;> rfl
structure Tie (M : PG) (G : List Node) : Prop where
  nodup : (M.map (·.1)).Nodup
  up : Up (rCells G)
  cell : ∀ n, n ∈ G → isCell n.at_ = true
  same : ∀ c, pGet M c = gGet G c
theorem gGet_isSome (G : List Node) (c : Int) : (gGet G c).isSome = true ↔ c ∈ rCells G := by
  unfold gGet rCells
  rw [Option.isSome_map, List.find?_isSome]
  simp only [decide_eq_true_eq, List.mem_map]
theorem pGet_isSome (M : PG) (c : Int) : (pGet M c).isSome = true ↔ c ∈ M.map (·.1) := by
  induction M with
  | nil => simp [pGet]
  | cons e M ih =>
    obtain ⟨d, y⟩ := e
    simp only [pGet, List.map_cons, List.mem_cons]
    split
    · rename_i h; simp [h]
    · rename_i h
      rw [ih]
      exact ⟨.inr, fun h' => h'.resolve_left fun e => h e.symm⟩
theorem Tie.keys {M : PG} {G : List Node} (h : Tie M G) (c : Int) : c ∈ M.map (·.1) ↔ c ∈ rCells G := by
  rw [← pGet_isSome, ← gGet_isSome, h.same]
theorem Tie.cells {M : PG} {G : List Node} (h : Tie M G) : pCells M = rCells G :=
  (sorted_up h.nodup).ext h.up fun x => by rw [List.mem_mergeSort]; exact h.keys x
theorem Tie.areas {M : PG} {G : List Node} (h : Tie M G) (c : Int) : pAreas M c = rAreas G c := by
  rw [rAreas_get, pAreas, h.same]
theorem At_ok (c : Int) : (At c).ok = isCell c := by
  unfold At isCell
  split
  · rename_i h
    rcases h with h | h <;> simp [Ref.ok] <;> omega
  · rename_i h
    have h0 : 0 ≤ c.tmod 64 := Int.tmod_nonneg _ (by omega)
    have h1 : c.tmod 64 < 64 := Int.tmod_lt_of_pos _ (by omega)
    have h2 : c.tdiv 64 = c / 64 := Int.tdiv_eq_ediv_of_nonneg (by omega)
    have e1 : decide (0 ≤ c.tmod 64) = true := decide_eq_true h0
    have e2 : decide (c.tmod 64 < 64) = true := decide_eq_true h1
    have e3 : decide (0 ≤ c / 64) = true := decide_eq_true (by omega)
    have e4 : decide (c / 64 < 1000) = true := decide_eq_true (by omega)
    have e5 : decide (0 ≤ c) = true := decide_eq_true (by omega)
    have e6 : decide (c < 64000) = true := decide_eq_true (by omega)
    simp only [Ref.ok, h2, e1, e2, e3, e4, e5, e6]; rfl
theorem Inside_ok (c : Int) (x : Area) : Inside (At c) x.a x.b = inA c x := by
  unfold inA
  cases h : (At c).ok with
  | true => simp
  | false =>
    rw [At_ok] at h
    have hat : At c = ⟨-1, -1, false, false⟩ := by
      unfold At
      rw [if_pos]
      unfold isCell at h
      simp at h
      omega
    rw [hat]
    unfold Inside
    by_cases ha : x.a.ok = true
    · by_cases hb : x.b.ok = true
      · have h1 : 0 ≤ x.a.col := by unfold Ref.ok at ha; simp at ha; omega
        have h2 : 0 ≤ x.b.col := by unfold Ref.ok at hb; simp at hb; omega
        have h3 : ¬ imin x.a.col x.b.col ≤ -1 := by unfold imin; split <;> omega
        simp [h3]
      · simp [hb]
    · simp [ha]
theorem Tie.needs {M : PG} {G : List Node} (h : Tie M G) (k c : Int) : pNeeds M k c = rNeeds G k c := by
  unfold pNeeds rNeeds
  rw [h.areas]
  congr 1
  funext x
  exact Inside_ok c x
theorem Tie.needs_fun {M : PG} {G : List Node} (h : Tie M G) : pNeeds M = rNeeds G := by funext k c; exact h.needs k c
theorem Tie.direct {M : PG} {G : List Node} (h : Tie M G) (c : Int) : pDirect M c = rDirect G c := by
  unfold pDirect rDirect
  rw [h.cells, h.needs_fun]
theorem Tie.needsOne {M : PG} {G : List Node} (h : Tie M G) : pNeedsOne M = rNeedsOne G := by
  funext k l
  unfold pNeedsOne rNeedsOne
  rw [h.needs_fun]
theorem Tie.hangs {M : PG} {G : List Node} (h : Tie M G) (l : List Int) (x : Int) : Hangs (pNeeds M) (M.map (·.1)) l x ↔ Hangs (rNeeds G) (rCells G) l x := by
  rw [h.needs_fun]
  constructor
  · intro hx
    induction hx with
    | one hk hc hn => exact .one ((h.keys _).1 hk) hc hn
    | more hk _ hn ih => exact .more ((h.keys _).1 hk) ih hn
  · intro hx
    induction hx with
    | one hk hc hn => exact .one ((h.keys _).2 hk) hc hn
    | more hk _ hn ih => exact .more ((h.keys _).2 hk) ih hn
theorem Tie.cellOf {M : PG} {G : List Node} (h : Tie M G) {c : Int} (hc : c ∈ rCells G) : isCell c = true := by
  obtain ⟨n, hn, rfl⟩ := List.mem_map.1 hc
  exact h.cell n hn
/-! ### an area list set -/
theorem pGet_put (M : PG) (c : Int) (l : List Area) (d : Int) : pGet (pPut M c l) d = if c = d then some l else pGet M d := by
  induction M with
  | nil => simp [pPut, pGet]
  | cons e M ih =>
    obtain ⟨x, y⟩ := e
    simp only [pPut]
    by_cases hx : x = c
    · subst hx
      simp only [if_true, pGet]
      split <;> rfl
    · rw [if_neg hx]
      simp only [pGet, ih]
      by_cases hc : c = d
      · subst hc; rw [if_neg hx, if_pos rfl, if_pos rfl]
      · rw [if_neg hc, if_neg hc]
theorem pGet_none {M : PG} {c : Int} (h : c ∉ M.map (·.1)) : pGet M c = none := by
  cases hg : pGet M c with
  | none => rfl
  | some x => exact absurd ((pGet_isSome M c).1 (by rw [hg]; rfl)) h
theorem pGet_del {M : PG} (hn : (M.map (·.1)).Nodup) (c : Int) (d : Int) : pGet (pDel M c) d = if c = d then none else pGet M d := by
  induction M with
  | nil => simp [pDel, pGet]
  | cons e M ih =>
    obtain ⟨x, y⟩ := e
    simp only [List.map_cons, List.nodup_cons] at hn
    have ih := ih hn.2
    simp only [pDel]
    by_cases hx : x = c
    · subst hx
      rw [if_pos rfl]
      simp only [pGet]
      by_cases hc : x = d
      · subst hc; rw [if_pos rfl]; exact pGet_none hn.1
      · rw [if_neg hc, if_neg hc]
    · rw [if_neg hx]
      simp only [pGet, ih]
      by_cases hc : c = d
      · subst hc; rw [if_neg hx, if_pos rfl, if_pos rfl]
      · rw [if_neg hc, if_neg hc]
theorem pDel_sub (M : PG) (c : Int) : (pDel M c).Sublist M := by
  induction M with
  | nil => exact .slnil
  | cons e M ih =>
    obtain ⟨x, y⟩ := e
    simp only [pDel]
    split
    · exact List.sublist_cons_self _ _
    · exact ih.cons_cons _
theorem pPut_keys (M : PG) (c : Int) (l : List Area) : (pPut M c l).map (·.1) = if c ∈ M.map (·.1) then M.map (·.1) else M.map (·.1) ++ [c] := by
  induction M with
  | nil => simp [pPut]
  | cons e M ih =>
    obtain ⟨x, y⟩ := e
    simp only [pPut]
    by_cases hx : x = c
    · subst hx; simp
    · rw [if_neg hx, List.map_cons, ih, List.map_cons]
      have hx' : ¬ c = x := fun h => hx h.symm
      by_cases hc : c ∈ M.map (·.1)
      · rw [if_pos hc, if_pos (List.mem_cons_of_mem _ hc)]
      · rw [if_neg hc, if_neg (fun h => (List.mem_cons.1 h).elim hx' hc)]; rfl
theorem gGet_left (G : List Node) (a d : Int) : gGet (rLeft G a) d = if a = d then none else gGet G d := by
  unfold gGet rLeft
  rw [List.find?_filter]
  by_cases h : a = d
  · subst h
    rw [if_pos rfl]
    rw [List.find?_eq_none.2 (fun n _ => by simp)]; rfl
  · rw [if_neg h]
    congr 2
    funext n
    by_cases hn : n.at_ = d
    · subst hn; simp; exact fun e => h e.symm
    · simp [hn]
theorem find_ins {L : List Node} (k : Nat) (a : Int) (l : List Area) (ha : a ∉ rCells L) (d : Int) : gGet (L.take k ++ [⟨a, l⟩] ++ L.drop k) d = if a = d then some l else gGet L d := by
  unfold gGet
  have hnone : ∀ (L' : List Node), (∀ n, n ∈ L' → n ∈ L) → L'.find? (fun n => decide (n.at_ = a)) = none := fun L' hs => by
    rw [List.find?_eq_none]
    intro n hn
    simp only [decide_eq_true_eq]
    rintro rfl
    exact ha (List.mem_map.2 ⟨n, hs n hn, rfl⟩)
  rw [List.find?_append, List.find?_append]
  by_cases h : a = d
  · subst h
    rw [if_pos rfl, hnone _ (fun n hn => List.mem_of_mem_take hn)]
    simp
  · rw [if_neg h]
    have : ([⟨a, l⟩] : List Node).find? (fun n => decide (n.at_ = d)) = none := by simp [h]
    rw [this]
    have e : L.find? (fun n => decide (n.at_ = d)) = (L.take k ++ L.drop k).find? (fun n => decide (n.at_ = d)) := by rw [List.take_append_drop]
    rw [e, List.find?_append]
    simp
theorem place_below (a : Int) (L : List Node) : rPlace a L = below a (rCells L) := by
  unfold rPlace lead below rCells
  rw [List.takeWhile_map, List.length_map]; rfl
theorem rPut_cells {G : List Node} {a : Int} {l : List Area} (hl : l.length > 0) (ha : isCell a = true) : rCells (rPut G a l) = ins (rCells (rLeft G a)) a := by
  have hn : a ∉ rCells (rLeft G a) := by
    intro h
    obtain ⟨n, hn, rfl⟩ := List.mem_map.1 h
    have := (List.mem_filter.1 hn).2
    simp at this
  unfold rPut
  rw [if_pos hl]
  unfold ins
  rw [if_pos ⟨ha, fun h => hn (List.mem_of_getElem? h)⟩, place_below]
  simp [rCells, List.map_take, List.map_drop]
theorem rLeft_up {G : List Node} (h : Up (rCells G)) (a : Int) : Up (rCells (rLeft G a)) := List.Pairwise.sublist ((List.filter_sublist).map _) h
theorem Tie.err {M : PG} {G : List Node} (hM : M.length ≤ 1000) (hG : G.length ≤ 1000) (a : Int) (l : List Area) : pErr M a l = rErr G a l := by
  unfold pErr rErr
  have hl := rLeft_len G a
  rw [At_ok]
  have e1 : (l.any fun x => !x.ok) = !(l.all Area.ok) := by rw [List.any_eq_not_all_not]; simp
  rw [e1]
  by_cases hc : isCell a = false
  · rw [if_pos hc, if_pos hc]
  · rw [if_neg hc, if_neg hc]
    by_cases ha : l.all Area.ok = false
    · rw [if_pos ha, if_pos (by rw [ha]; rfl)]
    · rw [if_neg ha, if_neg (by simp at ha; simpa using ha)]
      by_cases h5 : l.length > 500
      · rw [if_pos (.inl h5), if_pos (.inl h5)]
      · rw [if_neg (by omega), if_neg (by omega)]
theorem rErr_cell {G : List Node} {a : Int} {l : List Area} (h : rErr G a l = 0) : isCell a = true := by
  unfold rErr at h
  cases hc : isCell a with
  | true => rfl
  | false => rw [if_pos hc] at h; cases h
theorem Tie.set {M : PG} {G : List Node} (h : Tie M G) (hM : M.length ≤ 1000) (hG : G.length ≤ 1000) (a : Int) (l : List Area) : Tie (pSet M a l) (rSet G a l) := by
  have he := Tie.err hM hG a l
  unfold pSet rSet
  rw [he]
  by_cases h0 : rErr G a l = 0
  · rw [if_pos h0, if_pos h0]
    have hc := rErr_cell h0
    by_cases hl : l.length = 0
    · rw [if_pos hl]
      unfold rPut
      rw [if_neg (by omega)]
      refine ⟨h.nodup.sublist ((pDel_sub M a).map _), rLeft_up h.up a, fun n hn => h.cell n (List.mem_filter.1 hn).1, fun c => ?_⟩
      rw [pGet_del h.nodup, gGet_left, h.same]
    · rw [if_neg hl]
      have hl' : l.length > 0 := by omega
      refine ⟨?_, ?_, ?_, fun c => ?_⟩
      · rw [pPut_keys]
        split
        · exact h.nodup
        · rename_i hn
          rw [List.nodup_append]
          exact ⟨h.nodup, by simp, by rintro x hx y hy rfl; simp at hy; subst hy; exact hn hx⟩
      · rw [rPut_cells hl' hc]
        exact (ins_spec _ _ (rLeft_up h.up a)).1
      · intro n hn
        have : n.at_ ∈ rCells (rPut G a l) := List.mem_map.2 ⟨n, hn, rfl⟩
        rw [rPut_cells hl' hc] at this
        rcases ((ins_spec _ _ (rLeft_up h.up a)).2 n.at_).1 this with h1 | h1
        · obtain ⟨m, hm, hmn⟩ := List.mem_map.1 h1
          rw [← hmn]; exact h.cell m (List.mem_filter.1 hm).1
        · rw [h1.1]; exact hc
      · rw [pGet_put, h.same]
        unfold rPut
        rw [if_pos hl', find_ins _ _ _ (fun h => by
          obtain ⟨n, hn, rfl⟩ := List.mem_map.1 h
          have := (List.mem_filter.1 hn).2
          simp at this), gGet_left]
        by_cases hac : a = c
        · rw [if_pos hac, if_pos hac]
        · rw [if_neg hac, if_neg hac, if_neg hac]
  · rw [if_neg h0, if_neg h0]; exact h
theorem pSet_len (M : PG) (a : Int) (l : List Area) : (pSet M a l).length ≤ M.length + 1 := by
  unfold pSet
  split
  · split
    · exact Nat.le_succ_of_le (pDel_sub M a).length_le
    · have := congrArg List.length (pPut_keys M a l)
      rw [List.length_map] at this
      rw [this]
      split <;> simp
  · omega
theorem rSet_len (G : List Node) (a : Int) (l : List Area) : (rSet G a l).length ≤ G.length + 1 := by
  unfold rSet
  split
  · unfold rPut
    have := rLeft_len G a
    split
    · simp; omega
    · omega
  · omega
theorem Tie.nil : Tie [] [] := ⟨by simp, List.Pairwise.nil, fun n hn => by simp at hn, fun c => rfl⟩
end Go.Proofs.Ytdibiongjkmlpaa
