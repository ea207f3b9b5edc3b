/-
  The evaluator of closed calls, part 11: a plan that stands leads through every order; a region is sound.
-/
import Derived.Test.YtncoklpecffokaaGreatDoorEj
namespace Go.Proofs.YtncoklpecffokaaGreatDoor.Cc
open Go Go.RowKit

mutual
theorem V.beq_eq : ∀ (x : V) {y : V}, V.beq x y = true → x = y
  | .bool a, y, h => by cases y <;> simp [V.beq] at h; rw [h]
  | .int k m, y, h => by cases y <;> simp [V.beq] at h; rw [h.1, h.2]
  | .str s, y, h => by cases y <;> simp [V.beq] at h; rw [h]
  | .nilp, y, h => by cases y <;> simp [V.beq] at h; rfl
  | .ptr n o, y, h => by
    cases y <;> simp only [V.beq, Bool.and_eq_true, Bool.false_eq_true] at h
    rw [Nat.eq_of_beq_eq_true h.1, Nat.eq_of_beq_eq_true h.2]
  | .nilS, y, h => by cases y <;> simp [V.beq] at h; rfl
  | .voidS, y, h => by cases y <;> simp [V.beq] at h; rfl
  | .viewS, y, h => by cases y <;> simp [V.beq] at h
  | .sl a b c d, y, h => by
    cases y <;> simp only [V.beq, Bool.and_eq_true, Bool.false_eq_true] at h
    rw [Nat.eq_of_beq_eq_true h.1, Nat.eq_of_beq_eq_true h.2.1, Nat.eq_of_beq_eq_true h.2.2.1, Nat.eq_of_beq_eq_true h.2.2.2]
  | .nilM, y, h => by cases y <;> simp [V.beq] at h; rfl
  | .map n, y, h => by
    cases y <;> simp only [V.beq, Bool.false_eq_true] at h
    rw [Nat.eq_of_beq_eq_true h]
  | .func f cs, y, h => by
    cases y <;> simp only [V.beq, Bool.and_eq_true, Bool.false_eq_true] at h
    rw [Nat.eq_of_beq_eq_true h.1, V.beqL_eq cs h.2]
  | .nilF, y, h => by cases y <;> simp [V.beq] at h; rfl
  | .iface t v, y, h => by
    cases y <;> simp only [V.beq, Bool.and_eq_true, Bool.false_eq_true] at h
    rw [Nat.eq_of_beq_eq_true h.1, V.beq_eq v h.2]
  | .nilI, y, h => by cases y <;> simp [V.beq] at h; rfl
  | .agg cs, y, h => by
    cases y <;> simp only [V.beq, Bool.false_eq_true] at h
    rw [V.beqL_eq cs h]
  | .tuple cs, y, h => by
    cases y <;> simp only [V.beq, Bool.false_eq_true] at h
    rw [V.beqL_eq cs h]
  | .undef, y, h => by cases y <;> simp [V.beq] at h
theorem V.beqL_eq : ∀ (xs : List V) {ys : List V}, V.beqL xs ys = true → xs = ys
  | [], ys, h => by cases ys with | nil => rfl | cons => simp [V.beqL] at h
  | x :: xs, ys, h => by
    cases ys with
    | nil => simp [V.beqL] at h
    | cons y ys =>
      simp only [V.beqL, Bool.and_eq_true] at h
      rw [V.beq_eq x h.1, V.beqL_eq xs h.2]
end

section
variable {P : Program} {ti : TI} {ng : Con} {n : Nat} {call : CallF} {ops : List Oper} {r0 : Nat}

theorem not_ready_of_waits {listed : Array Bool} {i j : Nat} {D : List Nat} {oj : Oper} (hj : ops[j]? = some oj) (hw : waits oj i D = true) (hi : listed.getD i true = false) (hD : ∀ k ∈ D, listed.getD k true = false) : j ∉ Region.ready .any ops.toArray listed := by
  intro h
  obtain ⟨_, o, ho, hall⟩ := mem_ready.1 h
  have : o = oj := by simpa [hj] using ho.symm
  subst this
  unfold waits at hw
  rw [List.any_eq_true] at hw
  obtain ⟨ed, he, hb⟩ := hw
  simp only [Bool.and_eq_true, Bool.or_eq_true] at hb
  have h1 := hall ed (by simpa using he) hb.1
  have key : ∀ k, listed.getD k true = false → ed.on = k → False := by
    intro k hk e
    subst e
    rcases Nat.lt_or_ge ed.on listed.size with h' | h'
    · simp [h'] at hk h1; rw [hk] at h1; cases h1
    · simp [Array.getElem?_eq_none h'] at h1
  rcases hb.2 with hb2 | hb2
  · exact key i hi (Nat.eq_of_beq_eq_true hb2)
  · exact key ed.on (hD ed.on (by simpa using hb2)) rfl

/-- A free operation may be taken at once. -/
theorem XAny_free (hc : CallExt call) {Q : Lk → Heap → Prop} {i : Nat} {oi : Oper} {D : List Nat} {x : V} {ob' : List Ob} {e0 : Lk} (hi : ops[i]? = some oi) (hd : fits n oi.dst = true) (hobD : ∀ b ∈ ob', b.D = D)
    (hP : ∀ H, (∀ b ∈ ob', b.holds ti H = true) → evR P ti ng call ops r0 e0 H i oi = some (x, H)) :
    ∀ (f : Nat) (listed : Array Bool) (ob : List Ob) (e : Lk) (H : Heap), (∀ k ∈ D, listed.getD k true = false ∧ ∃ ok, ops[k]? = some ok ∧ waits ok i D = true) →
      (∀ j oj, ops[j]? = some oj → j ≠ i → listed.getD j true = false → j ∉ D → oi.apart ops.toArray oj = true) →
      i ∈ Region.ready .any ops.toArray listed → Lk.only (oi.looksAt ops.toArray) e = e0 → (∀ b ∈ ob', b.holds ti H = true) →
      XAny P ti ng n call ops r0 Q f (listed.setIfInBounds i true) (ob' ++ ob) (e.put oi.dst x) H → XAny P ti ng n call ops r0 Q (f + 1) listed ob e H := by
  intro f
  induction f with
  | zero =>
    intro listed ob e H hD hap hr he hob hX
    refine ⟨fun h => (by rw [h] at hr; cases hr), fun j hj => ?_⟩
    by_cases hji : j = i
    · subst hji
      exact ⟨oi, x, H, hi, hd, by rw [he]; exact hP H hob, fun b _ => .inr (.inr ⟨_, Heq.refl H⟩), hX⟩
    · have := ready_mono hj hji
      rw [hX.1] at this
      cases this
  | succ f ih =>
    intro listed ob e H hD hap hr he hob hX
    refine ⟨fun h => (by rw [h] at hr; cases hr), fun j hj => ?_⟩
    by_cases hji : j = i
    · subst hji
      refine ⟨oi, x, H, hi, hd, by rw [he]; exact hP H hob, fun b _ => .inr (.inr ⟨_, Heq.refl H⟩), ?_⟩
      -- the same, less what was to be watched
      have drop : ∀ (f : Nat) (listed : Array Bool) (ob : List Ob) (e : Lk) (H : Heap), XAny P ti ng n call ops r0 Q f listed (ob' ++ ob) e H → XAny P ti ng n call ops r0 Q f listed ob e H := by
        intro f
        induction f with
        | zero => intro listed ob e H h; exact h
        | succ f ih =>
          intro listed ob e H h
          refine ⟨h.1, fun j hj => ?_⟩
          obtain ⟨o, y, H', a1, a2, a3, a4, a5⟩ := h.2 j hj
          exact ⟨o, y, H', a1, a2, a3, fun b hb => a4 b (List.mem_append_right _ hb), ih _ _ _ _ a5⟩
      exact drop _ _ _ _ _ hX
    · obtain ⟨o, y, H', a1, a2, a3, a4, a5⟩ := hX.2 j (ready_mono hj hji)
      obtain ⟨hjun, _⟩ := mem_ready.1 hj
      have hiun := (mem_ready.1 hr).1
      have hjD : j ∉ D := fun hjD => by
        obtain ⟨_, ok, hok, hw⟩ := hD j hjD
        exact not_ready_of_waits hok hw hiun (fun k hk => (hD k hk).1) hj
      obtain ⟨p1, p2, p3⟩ := Oper.apart_spec (hap j o a1 hji hjun hjD)
      have e1 : Lk.only (o.looksAt ops.toArray) (e.put oi.dst x) = Lk.only (o.looksAt ops.toArray) e := Lk.only_put _ _ _ (fun t ht => p1 t ht)
      rw [e1] at a3
      have hob2 : ∀ b ∈ ob', b.holds ti H' = true := fun b hb => by
        rcases a4 b (List.mem_append_left _ hb) with c | c | ⟨X, c⟩
        · rw [hobD b hb] at c
          exact absurd (by simpa using c) hjD
        · exact c
        · exact c.holds (hob b hb)
      refine ⟨o, y, H', a1, a2, a3, fun b hb => a4 b (List.mem_append_right _ hb), ih _ _ _ _ (fun k hk => ⟨?_, (hD k hk).2⟩) (fun k ok hk hki hun hkD => hap k ok hk hki ?_ hkD) (ready_mono hr (Ne.symm hji)) ?_ hob2 ?_⟩
      · have hne : j ≠ k := fun e => hjD (e ▸ hk)
        rw [getD_set_ne true hne]; exact (hD k hk).1
      · by_cases hjk : j = k
        · subst hjk; exact hjun
        · rw [getD_set_ne true hjk] at hun; exact hun
      · rw [Lk.only_put _ _ _ (fun t ht => p3 t ht)]; exact he
      · rw [Array.setIfInBounds_comm _ _ hji, Lk.put_swap e y x (fun t ht ht2 => p2 t ht2 ht)]
        exact a5

/-- An operation that makes a block comes to the same over whatever heap in which its name is free. -/
theorem evR_alloc {e : Lk} {H H' H2 : Heap} {i : Nat} {o : Oper} {x : V} (hA : isA o.op = true) (h : evR P ti ng call ops r0 e H i o = some (x, H')) (hf : freeName H2 (r0 + i) = true) :
    ∃ X H2', evR P ti ng call ops r0 e H2 i o = some (x, H2') ∧ Ext X H H' ∧ Ext X H2 H2' ∧ (∀ m, m ≠ r0 + i → X m = none) := by
  unfold evR at h ⊢
  split at h
  · rename_i hw
    rw [hA] at h ⊢
    simp only [cond_true] at h ⊢
    rw [hf]
    cases hf1 : freeName H (r0 + i) with
    | false => rw [hf1] at h; cases h
    | true =>
    rw [hf1] at h
    simp only [cond_true] at h ⊢
    split at h <;> first | (cases h; done) | skip
    rename_i y b hb
    cases h
    refine ⟨single (r0 + i) b, _, rfl, ext_single hf1 b, ext_single hf b, fun m hm => by simp [single, hm]⟩
  · cases h; exact ⟨fun _ => none, H2, rfl, Heq.refl H, Heq.refl H2, fun _ _ => rfl⟩
  · cases h
/-- It may be delayed: those that make a block come first in whatever order. -/
theorem XAny_late (hc : CallExt call) {Q : Lk → Heap → Prop} (hQ : ∀ e H H2, Heq H H2 → Q e H → Q e H2) {j : Nat} {oj : Oper} {x : V} {A : List Nat} {L0 : Array Bool} (hj : ops[j]? = some oj) (hd : fits n oj.dst = true)
    (hA : ∀ i ∈ A, i ≠ j ∧ ∃ oi, ops[i]? = some oi ∧ isA oi.op = true ∧ oi.apart ops.toArray oj = true) :
    ∀ (f : Nat) (listed : Array Bool) (ob : List Ob) (e : Lk) (H H' : Heap), (∀ k, k ∈ Region.ready .any ops.toArray listed → k = j ∨ k ∈ A) →
      (∀ (S : List Nat), (∀ i ∈ S, i ∈ A) → ∀ k, k ∈ Region.ready .any ops.toArray (setAll listed S) → k = j ∨ k ∈ A) →
      j ∈ Region.ready .any ops.toArray listed → (∀ i ∈ A, listed.getD i true = false → freeName H (r0 + i) = true) →
      evR P ti ng call ops r0 (Lk.only (oj.looksAt ops.toArray) e) H j oj = some (x, H') → (∀ b ∈ ob, b.D.contains j = true ∨ b.holds ti H' = true) →
      XAny P ti ng n call ops r0 Q f (listed.setIfInBounds j true) ob (e.put oj.dst x) H' → XAny P ti ng n call ops r0 Q (f + 1) listed ob e H := by
  intro f
  induction f with
  | zero =>
    intro listed ob e H H' hR hS hr hfr hev hob hX
    refine ⟨fun h => (by rw [h] at hr; cases hr), fun i hi => ?_⟩
    by_cases hij : i = j
    · subst hij
      exact ⟨oj, x, H', hj, hd, hev, fun b hb => (hob b hb).imp id .inl, hX⟩
    · have := ready_mono hi hij
      rw [hX.1] at this
      cases this
  | succ f ih =>
    intro listed ob e H H' hR hS hr hfr hev hob hX
    refine ⟨fun h => (by rw [h] at hr; cases hr), fun i hi => ?_⟩
    by_cases hij : i = j
    · subst hij
      exact ⟨oj, x, H', hj, hd, hev, fun b hb => (hob b hb).imp id .inl, hX⟩
    · have hiA := (hR i hi).resolve_left hij
      obtain ⟨_, oi, hoi, hisA, hap⟩ := hA i hiA
      obtain ⟨p1, p2, p3⟩ := Oper.apart_spec hap
      obtain ⟨o, y, H1', a1, a2, a3, a4, a5⟩ := hX.2 i (ready_mono hi hij)
      have : o = oi := Option.some.inj (a1.symm.trans hoi)
      subst this
      rw [Lk.only_put _ _ _ (fun t ht => p3 t ht)] at a3
      have hfi := hfr i hiA (mem_ready.1 hi).1
      obtain ⟨X, H2', b1, b2, b3, b4⟩ := evR_alloc hisA a3 hfi
      have hXj : X (r0 + j) = none := b4 _ (by omega)
      obtain ⟨H3, c1, c2⟩ := evR_ext hc b3 hXj hev
      refine ⟨o, y, H2', a1, a2, b1, fun b _ => .inr (.inr ⟨X, b3⟩), ih (listed.setIfInBounds i true) ob (e.put o.dst y) H2' H3 (hS [i] (fun k hk => by rw [List.mem_singleton.1 hk]; exact hiA)) (fun S hSA => hS (i :: S) (fun k hk => by
        rcases List.mem_cons.1 hk with rfl | hk
        · exact hiA
        · exact hSA k hk)) (ready_mono hr (Ne.symm hij)) (fun k hk hun => ?_) ?_ (fun b hb => (hob b hb).imp id fun h => c2.holds h) ?_⟩
      · have hik : i ≠ k := by
          rintro rfl
          have h1 := (mem_ready.1 hi).1
          rcases Nat.lt_or_ge i listed.size with h' | h'
          · simp [h'] at hun
          · simp [Array.getElem?_eq_none h'] at h1
        rw [getD_set_ne true hik] at hun
        rw [ext_freeName b3 (b4 _ (by omega))]
        exact hfr k hk hun
      · rw [Lk.only_put _ _ _ (fun t ht => p1 t ht)]
        exact c1
      · rw [Array.setIfInBounds_comm _ _ hij, Lk.put_swap e y x (fun t ht => p2 t ht)]
        exact XAny.eqv hc hQ f _ ob _ H1' H3 (b2.uniq c2) a5

/-! ### plans -/
theorem setAll_un : ∀ (S : List Nat) (l : Array Bool) (k : Nat), (setAll l S).getD k true = false → l.getD k true = false ∧ k ∉ S
  | [], l, k, h => ⟨h, by simp⟩
  | i :: S, l, k, h => by
    obtain ⟨h1, h2⟩ := setAll_un S _ k h
    have hik : i ≠ k := by
      rintro rfl
      rcases Nat.lt_or_ge i l.size with h' | h'
      · simp [h'] at h1
      · simp [Array.getElem?_eq_none h'] at h1
    rw [getD_set_ne true hik] at h1
    exact ⟨h1, by simp [h2, Ne.symm hik]⟩
theorem setAll_un' : ∀ (S : List Nat) (l : Array Bool) (k : Nat), l.getD k true = false → k ∉ S → (setAll l S).getD k true = false
  | [], l, k, h, _ => h
  | i :: S, l, k, h, hk => by
    have hik : i ≠ k := by rintro rfl; simp at hk
    exact setAll_un' S _ k (by rw [getD_set_ne true hik]; exact h) (fun hks => hk (by simp [hks]))
theorem setAll_on : ∀ (S : List Nat) (l : Array Bool) (d : Nat), (setAll l S).getD d false = true → l.getD d false = true ∨ (d ∈ S ∧ d < l.size)
  | [], l, d, h => .inl h
  | i :: S, l, d, h => by
    rcases setAll_on S _ d h with h1 | ⟨h1, h2⟩
    · by_cases hid : i = d
      · subst hid
        rcases Nat.lt_or_ge i l.size with h' | h'
        · exact .inr ⟨by simp, h'⟩
        · simp [Array.getElem?_eq_none h'] at h1
          omega
      · rw [getD_set_ne false hid] at h1; exact .inl h1
    · exact .inr ⟨by simp [h1], by simpa using h2⟩
theorem setAll_on' : ∀ (S : List Nat) (l : Array Bool) (d : Nat), (l.getD d false = true ∨ (d ∈ S ∧ d < l.size)) → (setAll l S).getD d false = true
  | [], l, d, h => by
    rcases h with h | ⟨h, _⟩
    · exact h
    · simp at h
  | i :: S, l, d, h => by
    refine setAll_on' S _ d ?_
    by_cases hid : i = d
    · subst hid
      left
      rcases h with h | ⟨_, h⟩
      · exact getD_set_true h
      · simp [h]
    · rcases h with h | ⟨h, h2⟩
      · exact .inl (getD_set_true h)
      · refine .inr ⟨?_, by simpa using h2⟩
        rcases List.mem_cons.1 h with e | e
        · exact absurd e.symm hid
        · exact e
theorem lateB_spec {listed : Array Bool} {j : Nat} {A : List Nat} (h : lateB ops.toArray listed j A = true) :
    j ∈ Region.ready .any ops.toArray listed ∧ (∀ i ∈ A, i ≠ j ∧ ∃ oi, ops[i]? = some oi ∧ isA oi.op = true ∧ ∀ oj, ops[j]? = some oj → oi.apart ops.toArray oj = true) ∧
    (∀ k, k ∈ Region.ready .any ops.toArray listed → k = j ∨ k ∈ A) ∧
    (∀ (S : List Nat), (∀ i ∈ S, i ∈ A) → ∀ k, k ∈ Region.ready .any ops.toArray (setAll listed S) → k = j ∨ k ∈ A) := by
  unfold lateB at h
  simp only [Bool.and_eq_true] at h
  obtain ⟨h1, h2, h3, h4⟩ := h
  refine ⟨by simpa using h1, fun i hi => ?_, fun k hk => ?_, fun S hSA k hk => ?_⟩
  · have := List.all_eq_true.1 h3 i hi
    simp only [Bool.and_eq_true, Bool.not_eq_true', beq_eq_false_iff_ne] at this
    obtain ⟨q1, q2⟩ := this
    refine ⟨q1, ?_⟩
    split at q2
    · rename_i oi oj hoi hoj
      simp only [Bool.and_eq_true] at q2
      exact ⟨oi, by simpa using hoi, q2.1, fun oj' hj' => by
        have : oj = oj' := by simpa [hj'] using hoj.symm
        rw [← this]; exact q2.2⟩
    · cases q2
  · have := List.all_eq_true.1 h2 k hk
    simp only [Bool.or_eq_true, beq_iff_eq] at this
    exact this.imp id fun e => by simpa using e
  · by_cases hkA : k ∈ A
    · exact .inr hkA
    · left
      obtain ⟨hun, ok, hok, hall⟩ := mem_ready.1 hk
      have hr : Region.ready .any ops.toArray (setAll listed A) = [j] := by simpa using h4
      have : k ∈ Region.ready .any ops.toArray (setAll listed A) := by
        refine mem_ready.2 ⟨setAll_un' A listed k (setAll_un S listed k hun).1 hkA, ok, hok, fun ed he hb => ?_⟩
        refine setAll_on' A listed _ ?_
        rcases setAll_on S listed _ (hall ed he hb) with q | ⟨q1, q2⟩
        · exact .inl q
        · exact .inr ⟨hSA _ q1, q2⟩
      rw [hr] at this
      simpa using this
theorem freeB_spec {listed : Array Bool} {i : Nat} {oi : Oper} {D : List Nat} (hi : ops[i]? = some oi) (h : freeB ops.toArray listed i D = true) :
    (∀ k ∈ D, listed.getD k true = false ∧ ∃ ok, ops[k]? = some ok ∧ waits ok i D = true) ∧
    (∀ j oj, ops[j]? = some oj → j ≠ i → listed.getD j true = false → j ∉ D → oi.apart ops.toArray oj = true) := by
  unfold freeB at h
  have hi' : ops.toArray[i]? = some oi := by simpa using hi
  rw [hi'] at h
  simp only [Bool.and_eq_true] at h
  refine ⟨fun k hk => ?_, fun j oj hj hne hun hD => ?_⟩
  · have := List.all_eq_true.1 h.1 k hk
    simp only [Bool.and_eq_true, Bool.not_eq_true'] at this
    refine ⟨this.1, ?_⟩
    have q := this.2
    split at q
    · rename_i ok hok; exact ⟨ok, by simpa using hok, q⟩
    · cases q
  · have hlt : j < ops.toArray.size := by
      have := (List.getElem?_eq_some_iff.1 hj).1
      simpa using this
    have := List.all_eq_true.1 h.2 j (List.mem_range.2 hlt)
    have hj' : ops.toArray[j]? = some oj := by simpa using hj
    rw [hj'] at this
    simp only [Bool.or_eq_true, beq_iff_eq, hne, false_or, hun, Bool.false_eq_true] at this
    rcases this with q | q
    · exact absurd (by simpa using q) hD
    · exact q
/-- What evFree says of a free operation is so. -/
theorem evFree_spec {e : Lk} {H : Heap} {i : Nat} {D : List Nat} {o : Oper} {x : V} {ob' : List Ob} (h : evFree P ti ng ops e H D o = some (x, ob')) :
    (∀ b ∈ ob', b.D = D) ∧ (∀ b ∈ ob', b.holds ti H = true) ∧ ∀ H2, (∀ b ∈ ob', b.holds ti H2 = true) → evR P ti ng call ops r0 e H2 i o = some (x, H2) := by
  unfold evFree at h
  split at h
  · rename_i hw
    split at h
    · rename_i y hy
      cases h
      refine ⟨by simp, by simp, fun H2 _ => ?_⟩
      have hA : isA o.op = false := by
        obtain ⟨dst, op, ty, pos, af, gd⟩ := o
        cases op <;> first | rfl | (simp [evP, evP_pick, evP_nilCheck, evP_binOp, evP_makeInterface, evP_makeFunc, evP_fieldAddr, evP_field, evP_indexAddr, evP_index, evP_slice, evP_build, evP_extract, evP_typeAssert, evP_call] at hy)
      unfold evR
      rw [hw, hA, hy]
      rfl
    · rename_i hy
      split at h <;> first | (cases h; done) | skip
      rename_i T p hop
      split at h <;> first | (cases h; done) | skip
      rename_i n' k hp
      split at h <;> first | (cases h; done) | skip
      rename_i y hl
      obtain ⟨hb, h⟩ := cond_some h
      cases h
      refine ⟨fun b hb2 => by simp at hb2; rw [hb2], fun b hb2 => ?_, fun H2 hh => ?_⟩
      · simp at hb2
        subst hb2
        unfold Ob.holds
        rw [hl]; exact hb
      · have h2 := hh ⟨D, n', k, T, x⟩ (by simp)
        unfold Ob.holds at h2
        split at h2
        · rename_i z hz
          have := V.beq_eq z h2
          simp only at this hz
          subst this
          unfold evR
          rw [hw, hy]
          have hA : isA o.op = false := by rw [hop]; rfl
          rw [hA]
          simp only [cond_false]
          unfold evM
          rw [hop]
          simp only [evM_load, hp]
          unfold loadV at hz
          split at hz
          · rename_i i' cs q1 q2
            rw [q1]
            simp only [q2, hz]
          · cases hz
        · cases h2
  · rename_i hw
    cases h
    refine ⟨by simp, by simp, fun H2 _ => ?_⟩
    unfold evR
    rw [hw]
  · cases h
/-- A plan that stands leads through every order to where it ends. -/
theorem XAny_of_plan (hc : CallExt call) {eF : Lk} {HF : Heap} : ∀ (pl : List PS) (listed : Array Bool) (ob : List Ob) (e : Tr V) (H : Heap) (e' : Tr V) (H' : Heap), planOK ops.toArray pl listed = true →
    evPlan P ti ng n call ops r0 pl ob e H = some (e', H') → e'.get = eF → Heq HF H' → XAny P ti ng n call ops r0 (fun e2 H2 => e2 = eF ∧ Heq HF H2) pl.length listed ob e.get H
  | [], listed, ob, e, H, e', H', hB, h, he, hh => by
    cases h
    exact ⟨by simpa [planOK] using hB, he, hh⟩
  | .free i D :: r, listed, ob, e, H, e', H', hB, h, he, hh => by
    simp only [planOK, Bool.and_eq_true] at hB
    simp only [evPlan] at h
    split at h <;> first | (cases h; done) | skip
    rename_i o hi
    split at h <;> first | (cases h; done) | skip
    rename_i x ob' hf
    split at h <;> first | (cases h; done) | skip
    rename_i e1 hput
    obtain ⟨hd, hg⟩ := putT_spec hput
    obtain ⟨f1, f2, f3⟩ := evFree_spec (call := call) (r0 := r0) (i := i) hf
    obtain ⟨q1, q2⟩ := freeB_spec hi hB.2.1
    refine XAny_free hc hi hd f1 f3 r.length listed ob e.get H q1 q2 (by simpa using hB.1) rfl f2 ?_
    rw [← hg]
    exact XAny_of_plan hc r _ _ e1 H e' H' hB.2.2 h he hh
  | .late j A :: r, listed, ob, e, H, e', H', hB, h, he, hh => by
    simp only [planOK, Bool.and_eq_true] at hB
    simp only [evPlan] at h
    cases hfr : A.all (fun i => freeName H (r0 + i)) with
    | false => rw [hfr] at h; cases h
    | true =>
      rw [hfr] at h
      simp only [cond_true] at h
      split at h <;> first | (cases h; done) | skip
      rename_i o hj
      split at h <;> first | (cases h; done) | skip
      rename_i x H1 hev
      cases hobs : (ob.all fun b => b.D.contains j || b.holds ti H1) with
      | false => rw [hobs] at h; cases h
      | true =>
        rw [hobs] at h
        simp only [cond_true] at h
        split at h <;> first | (cases h; done) | skip
        rename_i e1 hput
        obtain ⟨hd, hg⟩ := putT_spec hput
        obtain ⟨l1, l2, l3, l4⟩ := lateB_spec hB.1
        refine XAny_late hc (fun e2 H2 H3 hq ⟨a, b⟩ => ⟨a, b.trans hq⟩) (L0 := listed) hj hd (fun i hi => by
            obtain ⟨a1, oi, a2, a3, a4⟩ := l2 i hi
            exact ⟨a1, oi, a2, a3, a4 o hj⟩) r.length listed ob e.get H H1 l3 l4 l1 (fun i hi _ => List.all_eq_true.1 hfr i hi) hev (fun b hb => ?_) ?_
        · have := List.all_eq_true.1 hobs b hb
          simpa only [Bool.or_eq_true] using this
        · rw [← hg]
          exact XAny_of_plan hc r _ _ e1 H1 e' H' hB.2 h he hh
end

end Go.Proofs.YtncoklpecffokaaGreatDoor.Cc
