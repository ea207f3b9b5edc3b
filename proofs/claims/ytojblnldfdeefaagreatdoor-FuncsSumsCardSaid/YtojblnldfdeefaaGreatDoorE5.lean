/-
  The evaluator of closed calls, part 11: a plan that stands leads through every order; a region is sound.
-/
import Derived.Test.YtojblnldfdeefaaGreatDoorE4
import Derived.Defers
namespace Go.Proofs.YtojblnldfdeefaaGreatDoor.Cc
open Go Go.RowKit

mutual
theorem V.beq_eq : ∀ (x : V) {y : V}, V.beq x y = true → x = y
  | .bool a, y, h => by cases y <;> simp [V.beq] at h; rw [h]
  | .int k m, y, h => by cases y <;> simp [V.beq] at h; rw [h.1, h.2]
  | .str s, y, h => by cases y <;> simp [V.beq] at h; rw [h]
  | .nilp, y, h => by cases y <;> simp [V.beq] at h; rfl
  | .ptr n o, y, h => by
    cases y <;> simp only [V.beq, Bool.and_eq_true, Bool.false_eq_true] at h
    rw [Nat.eq_of_beq_eq_true h.1, Nat.eq_of_beq_eq_true h.2]
  | .nilS, y, h => by cases y <;> simp [V.beq] at h; rfl
  | .voidS, y, h => by cases y <;> simp [V.beq] at h; rfl
  | .viewS, y, h => by cases y <;> simp [V.beq] at h
  | .sl a b c d, y, h => by
    cases y <;> simp only [V.beq, Bool.and_eq_true, Bool.false_eq_true] at h
    rw [Nat.eq_of_beq_eq_true h.1, Nat.eq_of_beq_eq_true h.2.1, Nat.eq_of_beq_eq_true h.2.2.1, Nat.eq_of_beq_eq_true h.2.2.2]
  | .nilM, y, h => by cases y <;> simp [V.beq] at h; rfl
  | .map n, y, h => by
    cases y <;> simp only [V.beq, Bool.false_eq_true] at h
    rw [Nat.eq_of_beq_eq_true h]
  | .func f cs, y, h => by
    cases y <;> simp only [V.beq, Bool.and_eq_true, Bool.false_eq_true] at h
    rw [Nat.eq_of_beq_eq_true h.1, V.beqL_eq cs h.2]
  | .meth f cs, y, h => by
    cases y <;> simp only [V.beq, Bool.and_eq_true, Bool.false_eq_true] at h
    rw [Nat.eq_of_beq_eq_true h.1, V.beqL_eq cs h.2]
  | .nilF, y, h => by cases y <;> simp [V.beq] at h; rfl
  | .iface t v, y, h => by
    cases y <;> simp only [V.beq, Bool.and_eq_true, Bool.false_eq_true] at h
    rw [Nat.eq_of_beq_eq_true h.1, V.beq_eq v h.2]
  | .nilI, y, h => by cases y <;> simp [V.beq] at h; rfl
  | .agg cs, y, h => by
    cases y <;> simp only [V.beq, Bool.false_eq_true] at h
    rw [V.beqL_eq cs h]
  | .tuple cs, y, h => by
    cases y <;> simp only [V.beq, Bool.false_eq_true] at h
    rw [V.beqL_eq cs h]
  | .undef, y, h => by cases y <;> simp [V.beq] at h
theorem V.beqL_eq : ∀ (xs : List V) {ys : List V}, V.beqL xs ys = true → xs = ys
  | [], ys, h => by cases ys with | nil => rfl | cons => simp [V.beqL] at h
  | x :: xs, ys, h => by
    cases ys with
    | nil => simp [V.beqL] at h
    | cons y ys =>
      simp only [V.beqL, Bool.and_eq_true] at h
      rw [V.beq_eq x h.1, V.beqL_eq xs h.2]
end

section
variable {P : Program} {ti : TI} {ng : Con} {n : Nat} {call : CallF} {ops : List Oper} {r0 : Nat}

theorem not_ready_of_waits {listed : Array Bool} {i j : Nat} {D : List Nat} {oj : Oper} (hj : ops[j]? = some oj) (hw : waits oj i D = true) (hi : listed.getD i true = false) (hD : ∀ k ∈ D, listed.getD k true = false) : j ∉ Region.ready .any ops.toArray listed := by
  intro h
  obtain ⟨_, o, ho, hall⟩ := mem_ready.1 h
  have : o = oj := by simpa [hj] using ho.symm
  subst this
  unfold waits at hw
  rw [List.any_eq_true] at hw
  obtain ⟨ed, he, hb⟩ := hw
  simp only [Bool.and_eq_true, Bool.or_eq_true] at hb
  have h1 := hall ed (by simpa using he) hb.1
  have key : ∀ k, listed.getD k true = false → ed.on = k → False := by
    intro k hk e
    subst e
    rcases Nat.lt_or_ge ed.on listed.size with h' | h'
    · simp [h'] at hk h1; rw [hk] at h1; cases h1
    · simp [Array.getElem?_eq_none h'] at h1
  rcases hb.2 with hb2 | hb2
  · exact key i hi (Nat.eq_of_beq_eq_true hb2)
  · exact key ed.on (hD ed.on (by simpa using hb2)) rfl

theorem XAny_free (_ : CallExt call) {Q : Lk → Heap → Prop} {i : Nat} {oi : Oper} {D : List Nat} {x : V} {ob' : List Ob} {e0 : Lk} (hi : ops[i]? = some oi) (hd : fits n oi.dst = true) (hobD : ∀ b ∈ ob', b.D = D)
    (hP : ∀ H, (∀ b ∈ ob', b.holds ti H = true) → evR P ti ng call ops r0 e0 H i oi = some (x, H)) :
    ∀ (f : Nat) (listed : Array Bool) (ob : List Ob) (e : Lk) (H : Heap), (∀ k ∈ D, listed.getD k true = false ∧ ∃ ok, ops[k]? = some ok ∧ waits ok i D = true) →
      (∀ j oj, ops[j]? = some oj → j ≠ i → listed.getD j true = false → j ∉ D → oi.apart ops.toArray oj = true) →
      i ∈ Region.ready .any ops.toArray listed → Lk.only (oi.looksAt ops.toArray) e = e0 → (∀ b ∈ ob', b.holds ti H = true) →
      XAny P ti ng n call ops r0 Q f (listed.setIfInBounds i true) (ob' ++ ob) (e.put oi.dst x) H → XAny P ti ng n call ops r0 Q (f + 1) listed ob e H := by
  intro f
  induction f with
  | zero =>
    intro listed ob e H hD hap hr he hob hX
    refine ⟨fun h => (by rw [h] at hr; cases hr), fun j hj => ?_⟩
    by_cases hji : j = i
    · subst hji
      exact ⟨oi, x, H, hi, hd, by rw [he]; exact hP H hob, fun b _ => .inr (.inr ⟨_, Heq.refl H⟩), hX⟩
    · have := ready_mono hj hji
      rw [hX.1] at this
      cases this
  | succ f ih =>
    intro listed ob e H hD hap hr he hob hX
    refine ⟨fun h => (by rw [h] at hr; cases hr), fun j hj => ?_⟩
    by_cases hji : j = i
    · subst hji
      refine ⟨oi, x, H, hi, hd, by rw [he]; exact hP H hob, fun b _ => .inr (.inr ⟨_, Heq.refl H⟩), ?_⟩
      -- the same, less what was to be watched
      have drop : ∀ (f : Nat) (listed : Array Bool) (ob : List Ob) (e : Lk) (H : Heap), XAny P ti ng n call ops r0 Q f listed (ob' ++ ob) e H → XAny P ti ng n call ops r0 Q f listed ob e H := by
        intro f
        induction f with
        | zero => intro listed ob e H h; exact h
        | succ f ih =>
          intro listed ob e H h
          refine ⟨h.1, fun j hj => ?_⟩
          obtain ⟨o, y, H', a1, a2, a3, a4, a5⟩ := h.2 j hj
          exact ⟨o, y, H', a1, a2, a3, fun b hb => a4 b (List.mem_append_right _ hb), ih _ _ _ _ a5⟩
      exact drop _ _ _ _ _ hX
    · obtain ⟨o, y, H', a1, a2, a3, a4, a5⟩ := hX.2 j (ready_mono hj hji)
      obtain ⟨hjun, _⟩ := mem_ready.1 hj
      have hiun := (mem_ready.1 hr).1
      have hjD : j ∉ D := fun hjD => by
        obtain ⟨_, ok, hok, hw⟩ := hD j hjD
        exact not_ready_of_waits hok hw hiun (fun k hk => (hD k hk).1) hj
      obtain ⟨p1, p2, p3⟩ := Oper.apart_spec (hap j o a1 hji hjun hjD)
      have e1 : Lk.only (o.looksAt ops.toArray) (e.put oi.dst x) = Lk.only (o.looksAt ops.toArray) e := Lk.only_put _ _ _ (fun t ht => p1 t ht)
      rw [e1] at a3
      have hob2 : ∀ b ∈ ob', b.holds ti H' = true := fun b hb => by
        rcases a4 b (List.mem_append_left _ hb) with c | c | ⟨X, c⟩
        · rw [hobD b hb] at c
          exact absurd (by simpa using c) hjD
        · exact c
        · exact c.holds (hob b hb)
      refine ⟨o, y, H', a1, a2, a3, fun b hb => a4 b (List.mem_append_right _ hb), ih _ _ _ _ (fun k hk => ⟨?_, (hD k hk).2⟩) (fun k ok hk hki hun hkD => hap k ok hk hki ?_ hkD) (ready_mono hr (Ne.symm hji)) ?_ hob2 ?_⟩
      · have hne : j ≠ k := fun e => hjD (e ▸ hk)
        rw [getD_set_ne true hne]; exact (hD k hk).1
      · by_cases hjk : j = k
        · subst hjk; exact hjun
        · rw [getD_set_ne true hjk] at hun; exact hun
      · rw [Lk.only_put _ _ _ (fun t ht => p3 t ht)]; exact he
      · rw [Array.setIfInBounds_comm _ _ hji, Lk.put_swap e y x (fun t ht ht2 => p2 t ht2 ht)]
        exact a5

theorem evR_alloc {e : Lk} {H H' H2 : Heap} {i : Nat} {o : Oper} {x : V} (hA : isA o.op = true) (h : evR P ti ng call ops r0 e H i o = some (x, H')) (hf : freeName H2 (r0 + i) = true) :
    ∃ X H2', evR P ti ng call ops r0 e H2 i o = some (x, H2') ∧ Ext X H H' ∧ Ext X H2 H2' ∧ (∀ m, m ≠ r0 + i → X m = none) := by
  unfold evR at h ⊢
  split at h
  · rename_i hw
    rw [hA] at h ⊢
    simp only [cond_true] at h ⊢
    rw [hf]
    cases hf1 : freeName H (r0 + i) with
    | false => rw [hf1] at h; cases h
    | true =>
    rw [hf1] at h
    simp only [cond_true] at h ⊢
    split at h <;> first | (cases h; done) | skip
    rename_i y b hb
    cases h
    refine ⟨single (r0 + i) b, _, rfl, ext_single hf1 b, ext_single hf b, fun m hm => by simp [single, hm]⟩
  · cases h; exact ⟨fun _ => none, H2, rfl, Heq.refl H, Heq.refl H2, fun _ _ => rfl⟩
  · cases h
theorem XAny_late (hc : CallExt call) {Q : Lk → Heap → Prop} (hQ : ∀ e H H2, Heq H H2 → Q e H → Q e H2) {j : Nat} {oj : Oper} {x : V} {A : List Nat} {_L0 : Array Bool} (hj : ops[j]? = some oj) (hd : fits n oj.dst = true)
    (hA : ∀ i ∈ A, i ≠ j ∧ ∃ oi, ops[i]? = some oi ∧ isA oi.op = true ∧ oi.apart ops.toArray oj = true) :
    ∀ (f : Nat) (listed : Array Bool) (ob : List Ob) (e : Lk) (H H' : Heap), (∀ k, k ∈ Region.ready .any ops.toArray listed → k = j ∨ k ∈ A) →
      (∀ (S : List Nat), (∀ i ∈ S, i ∈ A) → ∀ k, k ∈ Region.ready .any ops.toArray (setAll listed S) → k = j ∨ k ∈ A) →
      j ∈ Region.ready .any ops.toArray listed → (∀ i ∈ A, listed.getD i true = false → freeName H (r0 + i) = true) →
      evR P ti ng call ops r0 (Lk.only (oj.looksAt ops.toArray) e) H j oj = some (x, H') → (∀ b ∈ ob, b.D.contains j = true ∨ b.holds ti H' = true) →
      XAny P ti ng n call ops r0 Q f (listed.setIfInBounds j true) ob (e.put oj.dst x) H' → XAny P ti ng n call ops r0 Q (f + 1) listed ob e H := by
  intro f
  induction f with
  | zero =>
    intro listed ob e H H' hR hS hr hfr hev hob hX
    refine ⟨fun h => (by rw [h] at hr; cases hr), fun i hi => ?_⟩
    by_cases hij : i = j
    · subst hij
      exact ⟨oj, x, H', hj, hd, hev, fun b hb => (hob b hb).imp id .inl, hX⟩
    · have := ready_mono hi hij
      rw [hX.1] at this
      cases this
  | succ f ih =>
    intro listed ob e H H' hR hS hr hfr hev hob hX
    refine ⟨fun h => (by rw [h] at hr; cases hr), fun i hi => ?_⟩
    by_cases hij : i = j
    · subst hij
      exact ⟨oj, x, H', hj, hd, hev, fun b hb => (hob b hb).imp id .inl, hX⟩
    · have hiA := (hR i hi).resolve_left hij
      obtain ⟨_, oi, hoi, hisA, hap⟩ := hA i hiA
      obtain ⟨p1, p2, p3⟩ := Oper.apart_spec hap
      obtain ⟨o, y, H1', a1, a2, a3, a4, a5⟩ := hX.2 i (ready_mono hi hij)
      have : o = oi := Option.some.inj (a1.symm.trans hoi)
      subst this
      rw [Lk.only_put _ _ _ (fun t ht => p3 t ht)] at a3
      have hfi := hfr i hiA (mem_ready.1 hi).1
      obtain ⟨X, H2', b1, b2, b3, b4⟩ := evR_alloc hisA a3 hfi
      have hXj : X (r0 + j) = none := b4 _ (by omega)
      obtain ⟨H3, c1, c2⟩ := evR_ext hc b3 hXj hev
      refine ⟨o, y, H2', a1, a2, b1, fun b _ => .inr (.inr ⟨X, b3⟩), ih (listed.setIfInBounds i true) ob (e.put o.dst y) H2' H3 (hS [i] (fun k hk => by rw [List.mem_singleton.1 hk]; exact hiA)) (fun S hSA => hS (i :: S) (fun k hk => by
        rcases List.mem_cons.1 hk with rfl | hk
        · exact hiA
        · exact hSA k hk)) (ready_mono hr (Ne.symm hij)) (fun k hk hun => ?_) ?_ (fun b hb => (hob b hb).imp id fun h => c2.holds h) ?_⟩
      · have hik : i ≠ k := by
          rintro rfl
          have h1 := (mem_ready.1 hi).1
          rcases Nat.lt_or_ge i listed.size with h' | h'
          · simp [h'] at hun
          · simp [Array.getElem?_eq_none h'] at h1
        rw [getD_set_ne true hik] at hun
        rw [ext_freeName b3 (b4 _ (by omega))]
        exact hfr k hk hun
      · rw [Lk.only_put _ _ _ (fun t ht => p1 t ht)]
        exact c1
      · rw [Array.setIfInBounds_comm _ _ hij, Lk.put_swap e y x (fun t ht => p2 t ht)]
        exact XAny.eqv hc hQ f _ ob _ H1' H3 (b2.uniq c2) a5

/-! ### plans -/
theorem setAll_un : ∀ (S : List Nat) (l : Array Bool) (k : Nat), (setAll l S).getD k true = false → l.getD k true = false ∧ k ∉ S
  | [], l, k, h => ⟨h, by simp⟩
  | i :: S, l, k, h => by
    obtain ⟨h1, h2⟩ := setAll_un S _ k h
    have hik : i ≠ k := by
      rintro rfl
      rcases Nat.lt_or_ge i l.size with h' | h'
      · simp [h'] at h1
      · simp [] at h1
    rw [getD_set_ne true hik] at h1
    exact ⟨h1, by simp [h2, Ne.symm hik]⟩
theorem setAll_un' : ∀ (S : List Nat) (l : Array Bool) (k : Nat), l.getD k true = false → k ∉ S → (setAll l S).getD k true = false
  | [], l, k, h, _ => h
  | i :: S, l, k, h, hk => by
    have hik : i ≠ k := by rintro rfl; simp at hk
    exact setAll_un' S _ k (by rw [getD_set_ne true hik]; exact h) (fun hks => hk (by simp [hks]))
theorem setAll_on : ∀ (S : List Nat) (l : Array Bool) (d : Nat), (setAll l S).getD d false = true → l.getD d false = true ∨ (d ∈ S ∧ d < l.size)
  | [], l, d, h => .inl h
  | i :: S, l, d, h => by
    rcases setAll_on S _ d h with h1 | ⟨h1, h2⟩
    · by_cases hid : i = d
      · subst hid
        rcases Nat.lt_or_ge i l.size with h' | h'
        · exact .inr ⟨by simp, h'⟩
        · simp [] at h1
          omega
      · rw [getD_set_ne false hid] at h1; exact .inl h1
    · exact .inr ⟨by simp [h1], by simpa using h2⟩
theorem setAll_on' : ∀ (S : List Nat) (l : Array Bool) (d : Nat), (l.getD d false = true ∨ (d ∈ S ∧ d < l.size)) → (setAll l S).getD d false = true
  | [], l, d, h => by
    rcases h with h | ⟨h, _⟩
    · exact h
    · simp at h
  | i :: S, l, d, h => by
    refine setAll_on' S _ d ?_
    by_cases hid : i = d
    · subst hid
      left
      rcases h with h | ⟨_, h⟩
      · exact getD_set_true h
      · simp [h]
    · rcases h with h | ⟨h, h2⟩
      · exact .inl (getD_set_true h)
      · refine .inr ⟨?_, by simpa using h2⟩
        rcases List.mem_cons.1 h with e | e
        · exact absurd e.symm hid
        · exact e
theorem lateB_spec {listed : Array Bool} {j : Nat} {A : List Nat} (h : lateB ops.toArray listed j A = true) :
    j ∈ Region.ready .any ops.toArray listed ∧ (∀ i ∈ A, i ≠ j ∧ ∃ oi, ops[i]? = some oi ∧ isA oi.op = true ∧ ∀ oj, ops[j]? = some oj → oi.apart ops.toArray oj = true) ∧
    (∀ k, k ∈ Region.ready .any ops.toArray listed → k = j ∨ k ∈ A) ∧
    (∀ (S : List Nat), (∀ i ∈ S, i ∈ A) → ∀ k, k ∈ Region.ready .any ops.toArray (setAll listed S) → k = j ∨ k ∈ A) := by
  unfold lateB at h
  simp only [Bool.and_eq_true] at h
  obtain ⟨h1, h2, h3, h4⟩ := h
  refine ⟨by simpa using h1, fun i hi => ?_, fun k hk => ?_, fun S hSA k hk => ?_⟩
  · have := List.all_eq_true.1 h3 i hi
    simp only [Bool.and_eq_true, Bool.not_eq_true', beq_eq_false_iff_ne] at this
    obtain ⟨q1, q2⟩ := this
    refine ⟨q1, ?_⟩
    split at q2
    · rename_i oi oj hoi hoj
      simp only [Bool.and_eq_true] at q2
      exact ⟨oi, by simpa using hoi, q2.1, fun oj' hj' => by
        have : oj = oj' := by simpa [hj'] using hoj.symm
        rw [← this]; exact q2.2⟩
    · cases q2
  · have := List.all_eq_true.1 h2 k hk
    simp only [Bool.or_eq_true, beq_iff_eq] at this
    exact this.imp id fun e => by simpa using e
  · by_cases hkA : k ∈ A
    · exact .inr hkA
    · left
      obtain ⟨hun, ok, hok, hall⟩ := mem_ready.1 hk
      have hr : Region.ready .any ops.toArray (setAll listed A) = [j] := by simpa using h4
      have : k ∈ Region.ready .any ops.toArray (setAll listed A) := by
        refine mem_ready.2 ⟨setAll_un' A listed k (setAll_un S listed k hun).1 hkA, ok, hok, fun ed he hb => ?_⟩
        refine setAll_on' A listed _ ?_
        rcases setAll_on S listed _ (hall ed he hb) with q | ⟨q1, q2⟩
        · exact .inl q
        · exact .inr ⟨hSA _ q1, q2⟩
      rw [hr] at this
      simpa using this
theorem freeB_spec {listed : Array Bool} {i : Nat} {oi : Oper} {D : List Nat} (hi : ops[i]? = some oi) (h : freeB ops.toArray listed i D = true) :
    (∀ k ∈ D, listed.getD k true = false ∧ ∃ ok, ops[k]? = some ok ∧ waits ok i D = true) ∧
    (∀ j oj, ops[j]? = some oj → j ≠ i → listed.getD j true = false → j ∉ D → oi.apart ops.toArray oj = true) := by
  unfold freeB at h
  have hi' : ops.toArray[i]? = some oi := by simpa using hi
  rw [hi'] at h
  simp only [Bool.and_eq_true] at h
  refine ⟨fun k hk => ?_, fun j oj hj hne hun hD => ?_⟩
  · have := List.all_eq_true.1 h.1 k hk
    simp only [Bool.and_eq_true, Bool.not_eq_true'] at this
    refine ⟨this.1, ?_⟩
    have q := this.2
    split at q
    · rename_i ok hok; exact ⟨ok, by simpa using hok, q⟩
    · cases q
  · have hlt : j < ops.toArray.size := by
      have := (List.getElem?_eq_some_iff.1 hj).1
      simpa using this
    have := List.all_eq_true.1 h.2 j (List.mem_range.2 hlt)
    have hj' : ops.toArray[j]? = some oj := by simpa using hj
    rw [hj'] at this
    simp only [Bool.or_eq_true, beq_iff_eq, hne, false_or, hun, Bool.false_eq_true] at this
    rcases this with q | q
    · exact absurd (by simpa using q) hD
    · exact q
theorem evFree_spec {e : Lk} {H : Heap} {i : Nat} {D : List Nat} {o : Oper} {x : V} {ob' : List Ob} (h : evFree P ti ng ops e H D o = some (x, ob')) :
    (∀ b ∈ ob', b.D = D) ∧ (∀ b ∈ ob', b.holds ti H = true) ∧ ∀ H2, (∀ b ∈ ob', b.holds ti H2 = true) → evR P ti ng call ops r0 e H2 i o = some (x, H2) := by
  unfold evFree at h
  split at h
  · rename_i hw
    split at h
    · rename_i y hy
      cases h
      refine ⟨by simp, by simp, fun H2 _ => ?_⟩
      have hA : isA o.op = false := by
        obtain ⟨dst, op, ty, pos, af, gd⟩ := o
        cases op <;> first | rfl | (simp [evP] at hy)
      unfold evR
      rw [hw, hA, hy]
      rfl
    · rename_i hy
      split at h <;> first | (cases h; done) | skip
      rename_i T p hop
      split at h <;> first | (cases h; done) | skip
      rename_i n' k hp
      split at h <;> first | (cases h; done) | skip
      rename_i y hl
      obtain ⟨hb, h⟩ := cond_some h
      cases h
      refine ⟨fun b hb2 => by simp at hb2; rw [hb2], fun b hb2 => ?_, fun H2 hh => ?_⟩
      · simp at hb2
        subst hb2
        unfold Ob.holds
        rw [hl]; exact hb
      · have h2 := hh ⟨D, n', k, T, x⟩ (by simp)
        unfold Ob.holds at h2
        split at h2
        · rename_i z hz
          have := V.beq_eq z h2
          simp only at this hz
          subst this
          unfold evR
          rw [hw, hy]
          have hA : isA o.op = false := by rw [hop]; rfl
          rw [hA]
          simp only [cond_false]
          unfold evM
          rw [hop]
          simp only [evM_load, hp]
          unfold loadV at hz
          split at hz
          · rename_i i' cs q1 q2
            rw [q1]
            simp only [q2, hz]
          · cases hz
        · cases h2
  · rename_i hw
    cases h
    refine ⟨by simp, by simp, fun H2 _ => ?_⟩
    unfold evR
    rw [hw]
  · cases h
theorem XAny_of_plan (hc : CallExt call) {eF : Lk} {HF : Heap} : ∀ (pl : List PS) (listed : Array Bool) (ob : List Ob) (e : Tr V) (H : Heap) (e' : Tr V) (H' : Heap), planOK ops.toArray pl listed = true →
    evPlan P ti ng n call ops r0 pl ob e H = some (e', H') → e'.get = eF → Heq HF H' → XAny P ti ng n call ops r0 (fun e2 H2 => e2 = eF ∧ Heq HF H2) pl.length listed ob e.get H
  | [], listed, ob, e, H, e', H', hB, h, he, hh => by
    cases h
    exact ⟨by simpa [planOK] using hB, he, hh⟩
  | .free i D :: r, listed, ob, e, H, e', H', hB, h, he, hh => by
    simp only [planOK, Bool.and_eq_true] at hB
    simp only [evPlan] at h
    split at h <;> first | (cases h; done) | skip
    rename_i o hi
    split at h <;> first | (cases h; done) | skip
    rename_i x ob' hf
    split at h <;> first | (cases h; done) | skip
    rename_i e1 hput
    obtain ⟨hd, hg⟩ := putT_spec hput
    obtain ⟨f1, f2, f3⟩ := evFree_spec (call := call) (r0 := r0) (i := i) hf
    obtain ⟨q1, q2⟩ := freeB_spec hi hB.2.1
    refine XAny_free hc hi hd f1 f3 r.length listed ob e.get H q1 q2 (by simpa using hB.1) rfl f2 ?_
    rw [← hg]
    exact XAny_of_plan hc r _ _ e1 H e' H' hB.2.2 h he hh
  | .late j A :: r, listed, ob, e, H, e', H', hB, h, he, hh => by
    simp only [planOK, Bool.and_eq_true] at hB
    simp only [evPlan] at h
    cases hfr : A.all (fun i => freeName H (r0 + i)) with
    | false => rw [hfr] at h; cases h
    | true =>
      rw [hfr] at h
      simp only [cond_true] at h
      split at h <;> first | (cases h; done) | skip
      rename_i o hj
      split at h <;> first | (cases h; done) | skip
      rename_i x H1 hev
      cases hobs : (ob.all fun b => b.D.contains j || b.holds ti H1) with
      | false => rw [hobs] at h; cases h
      | true =>
        rw [hobs] at h
        simp only [cond_true] at h
        split at h <;> first | (cases h; done) | skip
        rename_i e1 hput
        obtain ⟨hd, hg⟩ := putT_spec hput
        obtain ⟨l1, l2, l3, l4⟩ := lateB_spec hB.1
        refine XAny_late hc (fun e2 H2 H3 hq ⟨a, b⟩ => ⟨a, b.trans hq⟩) (_L0 := listed) hj hd (fun i hi => by
            obtain ⟨a1, oi, a2, a3, a4⟩ := l2 i hi
            exact ⟨a1, oi, a2, a3, a4 o hj⟩) r.length listed ob e.get H H1 l3 l4 l1 (fun i hi _ => List.all_eq_true.1 hfr i hi) hev (fun b hb => ?_) ?_
        · have := List.all_eq_true.1 hobs b hb
          simpa only [Bool.or_eq_true] using this
        · rw [← hg]
          exact XAny_of_plan hc r _ _ e1 H1 e' H' hB.2 h he hh
end

end Go.Proofs.YtojblnldfdeefaaGreatDoor.Cc

namespace Go.Proofs.YtojblnldfdeefaaGreatDoor.Cc
open Go Go.RowKit

section
theorem evStep_def {P : Program} {ti : TI} {ng : Con} {call : CallF} {e : Lk} {H : Heap} {o : Oper} {d : DV} (h : evDef ng e o = some d) : evStep P ti ng call e H o = none := by
  obtain ⟨dst, op, ty, pos, af, gd⟩ := o
  cases op <;> first | (simp [evDef] at h; done) | rfl
variable {P : Program} {ti : TI} {ng : Con} {n : Nat} {call : CallF} (hc : CallExt call) {X : Nat → Option O}
include hc
theorem evOps_ext {ops : List Oper} : ∀ {l : List Oper} {D D' : List DV} {e e' : Tr V} {H H' H2 : Heap}, evOps P ti ng n call ops l D e H = some (D', e', H') → Ext X H H2 → ∃ H2', evOps P ti ng n call ops l D e H2 = some (D', e', H2') ∧ Ext X H' H2'
  | [], D, D', e, e', H, H', H2, h, x => by cases h; exact ⟨H2, rfl, x⟩
  | o :: l, D, D', e, e', H, H', H2, h, x => by
    simp only [evOps] at h ⊢
    split at h <;> first | (cases h; done) | skip
    · split at h
      · rename_i y H1 hs
        obtain ⟨H3, a1, a2⟩ := evStep_ext hc x hs
        rw [a1]
        simp only
        split at h <;> first | (cases h; done) | skip
        exact evOps_ext h a2
      · rename_i hs
        split at h <;> first | (cases h; done) | skip
        rename_i d hd
        rw [evStep_def hd]
        simp only
        split at h <;> first | (cases h; done) | skip
        exact evOps_ext h x
    · split at h <;> first | (cases h; done) | skip
      exact evOps_ext h x
omit hc in
theorem evFree_ext {ops : List Oper} {e : Lk} {H H2 : Heap} {D : List Nat} {o : Oper} {r : V × List Ob} (x : Ext X H H2) (h : evFree P ti ng ops e H D o = some r) : evFree P ti ng ops e H2 D o = some r := by
  unfold evFree at h ⊢
  split at h
  · rename_i hw
    split at h
    · exact h
    · split at h <;> first | (cases h; done) | skip
      split at h <;> first | (cases h; done) | skip
      split at h <;> first | (cases h; done) | skip
      rename_i y hl
      rw [x.load hl]
      exact h
  · exact h
  · cases h
theorem evPlan_ext {ops : List Oper} {r0 : Nat} (hX : ∀ m, r0 ≤ m → X m = none) : ∀ {pl : List PS} {ob : List Ob} {e e' : Tr V} {H H' H2 : Heap}, evPlan P ti ng n call ops r0 pl ob e H = some (e', H') → Ext X H H2 → ∃ H2', evPlan P ti ng n call ops r0 pl ob e H2 = some (e', H2') ∧ Ext X H' H2'
  | [], ob, e, e', H, H', H2, h, x => by cases h; exact ⟨H2, rfl, x⟩
  | .free i D :: l, ob, e, e', H, H', H2, h, x => by
    simp only [evPlan] at h ⊢
    split at h <;> first | (cases h; done) | skip
    split at h <;> first | (cases h; done) | skip
    rename_i y ob' hf
    rw [evFree_ext x hf]
    simp only
    split at h <;> first | (cases h; done) | skip
    exact evPlan_ext hX h x
  | .late j A :: l, ob, e, e', H, H', H2, h, x => by
    simp only [evPlan] at h ⊢
    have hfr : (A.all fun i => freeName H2 (r0 + i)) = (A.all fun i => freeName H (r0 + i)) := by
      congr 1
      funext i
      exact ext_freeName x (hX _ (by omega))
    rw [hfr]
    cases hb : (A.all fun i => freeName H (r0 + i)) with
    | false => rw [hb] at h; cases h
    | true =>
      rw [hb] at h
      simp only [cond_true] at h ⊢
      split at h <;> first | (cases h; done) | skip
      split at h <;> first | (cases h; done) | skip
      rename_i y H1 hev
      obtain ⟨H3, a1, a2⟩ := evR_ext hc x (hX _ (by omega)) hev
      rw [a1]
      simp only
      cases hob : (ob.all fun b => b.D.contains j || b.holds ti H1) with
      | false => rw [hob] at h; cases h
      | true =>
        rw [hob] at h
        have hob2 : (ob.all fun b => b.D.contains j || b.holds ti H3) = true := by
          rw [List.all_eq_true] at hob ⊢
          intro b hb
          have := hob b hb
          simp only [Bool.or_eq_true] at this ⊢
          exact this.imp id fun q => a2.holds q
        rw [hob2]
        simp only [cond_true] at h ⊢
        split at h <;> first | (cases h; done) | skip
        exact evPlan_ext hX h a2
theorem evC_ext : ∀ {f : Nat} {c : Code} {D D' : List DV} {e e' : Tr V} {H H' H2 : Heap} {x : Ex}, evC P ti ng call n f c D e H = some (x, D', e', H') → Ext X H H2 → ∃ H2', evC P ti ng call n f c D e H2 = some (x, D', e', H2') ∧ Ext X H' H2'
  | 0, c, D, D', e, e', H, H', H2, x, h, k => by cases h
  | f + 1, c, D, D', e, e', H, H', H2, x, h, k => by
    have ih := @evC_ext f
    cases c with
    | skip => simp only [evC] at h ⊢; cases h; exact ⟨H2, rfl, k⟩
    | label l => simp only [evC] at h ⊢; cases h; exact ⟨H2, rfl, k⟩
    | exit id => simp only [evC] at h ⊢; cases h; exact ⟨H2, rfl, k⟩
    | ret => simp only [evC] at h ⊢; cases h; exact ⟨H2, rfl, k⟩
    | region id ops draw =>
      simp only [evC, evReg] at h ⊢
      cases draw with
      | true =>
        simp only [cond_true] at h ⊢
        cases hb : (Nat.beq (planFor id ops).length ops.toList.length && planOK ops (planFor id ops) (Array.replicate ops.size false)) with
        | false => rw [hb] at h; cases h
        | true =>
          rw [hb] at h
          simp only [cond_true] at h ⊢
          split at h <;> first | (cases h; done) | skip
          rename_i e1 H1 hp
          cases h
          rw [k.nn]
          have k2 := k.bump ops.toList.length
          rw [k.nn] at k2
          obtain ⟨H3, a1, a2⟩ := evPlan_ext (r0 := H.nn) hc (fun m hm => k.free_nn hm) hp k2
          rw [a1]
          exact ⟨_, rfl, a2⟩
      | false =>
        simp only [cond_false] at h ⊢
        split at h <;> first | (cases h; done) | skip
        rename_i D1 e1 H1 hp
        cases h
        obtain ⟨H3, a1, a2⟩ := evOps_ext hc hp k
        rw [a1]
        exact ⟨_, rfl, a2⟩
    | seq a b =>
      simp only [evC] at h ⊢
      cases ha : evC P ti ng call n f a D e H with
      | none => rw [ha] at h; cases h
      | some r =>
        obtain ⟨x1, D1, e1, H1⟩ := r
        obtain ⟨H3, a1, a2⟩ := ih ha k
        rw [ha] at h
        rw [a1]
        cases x1 with
        | normal => exact ih h a2
        | exit i => simp only at h ⊢; cases h; exact ⟨_, rfl, a2⟩
        | ret => simp only at h ⊢; cases h; exact ⟨_, rfl, a2⟩
    | cond c a b =>
      simp only [evC] at h ⊢
      split at h <;> first | (cases h; done) | skip
      · exact ih h k
      · exact ih h k
    | block id b =>
      simp only [evC] at h ⊢
      cases ha : evC P ti ng call n f b D e H with
      | none => rw [ha] at h; cases h
      | some r =>
        obtain ⟨x1, D1, e1, H1⟩ := r
        obtain ⟨H3, a1, a2⟩ := ih ha k
        rw [ha] at h
        rw [a1]
        cases x1 with
        | normal => simp only at h ⊢; cases h; exact ⟨_, rfl, a2⟩
        | exit i =>
          simp only at h ⊢
          cases hb : Nat.beq i id with
          | true => rw [hb] at h; cases h; exact ⟨_, rfl, a2⟩
          | false => rw [hb] at h; cases h; exact ⟨_, rfl, a2⟩
        | ret => simp only at h ⊢; cases h; exact ⟨_, rfl, a2⟩
    | loop b =>
      simp only [evC] at h ⊢
      cases ha : evC P ti ng call n f b D e H with
      | none => rw [ha] at h; cases h
      | some r =>
        obtain ⟨x1, D1, e1, H1⟩ := r
        obtain ⟨H3, a1, a2⟩ := ih ha k
        rw [ha] at h
        rw [a1]
        cases x1 with
        | normal => exact ih h a2
        | exit i => simp only at h ⊢; cases h; exact ⟨_, rfl, a2⟩
        | ret => simp only at h ⊢; cases h; exact ⟨_, rfl, a2⟩
    | scope b => simp only [evC] at h ⊢; exact ih h k
    | _ => simp [evC] at h
end

theorem resL_ext {ti : TI} {X : Nat → Option O} {e : Lk} {H H2 : Heap} (x : Ext X H H2) : ∀ {rs : List ResultVar} {xs : List V}, resL ti e H rs = some xs → resL ti e H2 rs = some xs
  | [], xs, h => h
  | r :: rs, xs, h => by
    simp only [resL] at h ⊢
    split at h <;> first | (cases h; done) | skip
    rename_i y hy
    have hy2 : resV ti e H2 r = some y := by
      unfold resV at hy ⊢
      split at hy
      · exact hy
      · split at hy <;> first | (cases hy; done) | skip
        split at hy <;> first | (cases hy; done) | skip
        rename_i cs hcs
        rw [x.cells hcs]
        exact hy
    rw [hy2]
    simp only
    split at h <;> first | (cases h; done) | skip
    rename_i ys hys
    rw [resL_ext x hys]
    exact h
theorem cond_if {α : Type} {b : Bool} {x : Option α} {y : α} (h : cond b x none = some y) : b = true ∧ x = some y := by
  cases b <;> simp_all
theorem evBody_ext {P : Program} {ti : TI} {ng : Con} {call : CallF} (hc : CallExt call) {X : Nat → Option O} {g : FuncId} {xs : List V} {H H1 H2 : Heap} {D : List DV} {e : Tr V} {rs : List ResultVar} (h : evBody P ti ng call g xs H = some (D, e, H1, rs)) (k : Ext X H H2) :
    ∃ H3, evBody P ti ng call g xs H2 = some (D, e, H3, rs) ∧ Ext X H1 H3 := by
  simp only [evBody] at h ⊢
  split at h <;> first | (cases h; done) | skip
  rename_i fi hfi
  obtain ⟨hb, h⟩ := cond_if h
  rw [hb]
  simp only [cond_true]
  cases hev : evC P ti ng call fi.ntmps 100000 fi.body [] (argT 0 xs .leaf) H with
  | none => rw [hev] at h; cases h
  | some q =>
    obtain ⟨x1, D1, e1, H4⟩ := q
    obtain ⟨H3, a1, a2⟩ := evC_ext hc hev k
    rw [hev] at h
    rw [a1]
    cases x1 with
    | exit i => cases h
    | normal => cases h; exact ⟨_, rfl, a2⟩
    | ret => cases h; exact ⟨_, rfl, a2⟩
theorem evD_ext {P : Program} {ti : TI} {ng : Con} {call : CallF} (hc : CallExt call) {X : Nat → Option O} {g : FuncId} {xs : List V} {H H1 H2 : Heap} {r : V} (h : evD P ti ng call g xs H = some (r, H1)) (k : Ext X H H2) :
    ∃ H3, evD P ti ng call g xs H2 = some (r, H3) ∧ Ext X H1 H3 := by
  simp only [evD] at h ⊢
  split at h <;> first | (cases h; done) | skip
  rename_i e H4 rs hb
  obtain ⟨H3, a1, a2⟩ := evBody_ext hc hb k
  rw [a1]
  simp only
  split at h <;> first | (cases h; done) | skip
  rename_i ys hys
  cases h
  rw [resL_ext a2 hys]
  exact ⟨_, rfl, a2⟩
theorem evDs_ext {P : Program} {ti : TI} {ng : Con} {idl : FuncId → List V → Bool} {call : CallF} (hc : CallExt call) {X : Nat → Option O} : ∀ {D : List DV} {H H1 H2 : Heap}, evDs P ti ng idl call D H = some H1 → Ext X H H2 → ∃ H3, evDs P ti ng idl call D H2 = some H3 ∧ Ext X H1 H3
  | [], H, H1, H2, h, k => by cases h; exact ⟨_, rfl, k⟩
  | d :: D, H, H1, H2, h, k => by
    simp only [evDs] at h ⊢
    cases hi : idl d.1 d.2 with
    | true => simp only [hi, cond_true] at h ⊢; exact evDs_ext hc h k
    | false =>
      simp only [hi, cond_false] at h ⊢
      split at h <;> first | (cases h; done) | skip
      rename_i hd
      obtain ⟨H3, a1, a2⟩ := evD_ext hc hd k
      rw [a1]
      exact evDs_ext hc h a2
def ModExt (isM : FuncId → List V → Bool) (mod : CallF → CallF) : Prop := ∀ call, CallExt call → ∀ f xs H r H' X H2, isM f xs = true → mod call f xs H = some (r, H') → Ext X H H2 → ∃ H2', mod call f xs H2 = some (r, H2') ∧ Ext X H' H2'
theorem evF_ext {P : Program} {ti : TI} {ng : Con} {idl isM : FuncId → List V → Bool} {mod : CallF → CallF} (hm : ModExt isM mod) : ∀ f, CallExt (evF P ti ng idl isM mod f)
  | 0 => fun _ _ _ _ _ _ _ h _ => by cases h
  | f + 1 => fun g xs H r H' X H2 h k => by
    have ih := evF_ext (P := P) (ti := ti) (ng := ng) (idl := idl) hm f
    simp only [evF] at h ⊢
    cases hg : isM g xs with
    | true =>
      rw [hg] at h
      exact hm _ ih _ _ _ _ _ _ _ hg h k
    | false =>
      rw [hg] at h
      simp only [cond_false] at h ⊢
      split at h <;> first | (cases h; done) | skip
      rename_i D e H1 rs hb
      obtain ⟨H3, a1, a2⟩ := evBody_ext ih hb k
      rw [a1]
      simp only
      split at h <;> first | (cases h; done) | skip
      rename_i H4 hd
      obtain ⟨H5, b1, b2⟩ := evDs_ext ih hd a2
      rw [b1]
      simp only
      split at h <;> first | (cases h; done) | skip
      rename_i ys hys
      cases h
      rw [resL_ext b2 hys]
      exact ⟨_, rfl, b2⟩

end Go.Proofs.YtojblnldfdeefaaGreatDoor.Cc

namespace Go.Proofs.YtojblnldfdeefaaGreatDoor.Cc
open Go Go.RowKit

def Ex.out : Ex → Exit
  | .normal => .normal
  | .exit i => .exit i
  | .ret => .ret
def RelD (g : G) (d : DV) (t : Deferred) : Prop := ∃ fv cap vs, t.target = .fn fv cap ∧ RelVs g d.2 vs ∧ invoke t.target t.args = callFunc d.1 vs.toArray
def RelDs (g : G) : List DV → List Deferred → Prop
  | [], [] => True
  | d :: D, t :: ds => RelD g d t ∧ RelDs g D ds
  | _, _ => False
theorem RelVs.mono {g g' : G} (h : g.le g') {xs : List V} {vs : List Value} (k : RelVs g xs vs) : RelVs g' xs vs := ⟨k.1, fun i x v hx hv => (k.2 i x v hx hv).mono h⟩
theorem RelDs.mono {g g' : G} (h : g.le g') : ∀ {D : List DV} {ds : List Deferred}, RelDs g D ds → RelDs g' D ds
  | [], [], _ => trivial
  | _ :: _, _ :: _, ⟨⟨fv, cap, vs, k1, k2, k3⟩, k⟩ => ⟨⟨fv, cap, vs, k1, k2.mono h, k3⟩, RelDs.mono h k⟩
  | [], _ :: _, k => k.elim
  | _ :: _, [], k => k.elim
def Post (g : G) (n : Nat) (D : List DV) (x : Ex) (e : Lk) (H : Heap) : Exit → Act → World → Prop :=
  fun ex a w => ex = x.out ∧ ∃ g' ds, g.le g' ∧ RelDs g' D ds ∧ RelAct g' n ds e a ∧ Sat g' H w
theorem Post.up {g g' : G} (h : g.le g') {n : Nat} {D : List DV} {x : Ex} {e : Lk} {H : Heap} {ex : Exit} {a : Act} {w : World} (k : Post g' n D x e H ex a w) : Post g n D x e H ex a w :=
  let ⟨h1, g'', ds, h2, h3⟩ := k; ⟨h1, g'', ds, h.trans h2, h3⟩

section
variable {P : Program} {ti : TI} (ok : TIok P ti) (hm : P.follows .mixedOrders = true) {ng : Con} {n : Nat} {call : CallF} (hc : CallOK P ng call) (hx : CallExt call)
include ok hc

omit ok hc in
theorem wpList_up {ops : Array Oper} {g g' : G} (hle : g.le g') {D : List DV} {x : Ex} {e : Lk} {H : Heap} : ∀ {l : List Oper} {a : Act} {w : World}, wpList P ops (Post g' n D x e H) l a w → wpList P ops (Post g n D x e H) l a w := by
  intro l
  induction l with
  | nil => intro a w h; exact Post.up hle h
  | cons o l ih =>
    intro a w h
    unfold wpList at h ⊢
    split
    · rename_i hw
      rw [if_pos hw] at h
      rcases h with h | ⟨h1, a0, w0, h2⟩
      · refine .inl ?_
        unfold Oper.wp at h ⊢
        generalize (execOp a.eval o).run P w = r at *
        cases r with
        | ok x w' =>
          cases x <;> simp only [Oper.upon] at h ⊢ <;> first
            | exact ih h
            | exact Calls.mono h (fun e w'' he => by
                cases e with
                | returned v => exact ih he
                | panicked c => exact Post.up hle he
                | outgrown => obtain ⟨a1, w1, h1⟩ := he; exact ⟨a1, w1, Post.up hle h1⟩)
            | exact Rows.mono h (fun v w'' he => ih he)
            | exact h
        | halt x w' => cases x <;> simp only [Oper.upon] at h ⊢ <;> first | exact Post.up hle h | exact h
      · exact .inr ⟨h1, a0, w0, Post.up hle h2⟩
    · rename_i hw
      rw [if_neg hw] at h
      exact ih h
omit ok hc in
theorem evDef_spec {e : Lk} {o : Oper} {d : DV} (h : evDef ng e o = some d) {g : G} {a : Act} {w : World} (hg : g.ng = ng) (hr : RelE g e a) : ∃ t, RelD g d t ∧ (execOp a.eval o).run P w = .ok (.defer t) w := by
  obtain ⟨dst, op, ty, pos, af, gd⟩ := o
  cases op <;> first | (simp [evDef] at h; done) | skip
  rename_i c
  obtain ⟨cal, as, ts⟩ := c
  cases cal <;> first | (simp [evDef] at h; done) | skip
  rename_i f
  simp only [evDef] at h
  split at h <;> first | (cases h; done) | skip
  rename_i fid cap xs hf hx
  cases h
  subst hg
  obtain ⟨v, hev, hv⟩ := evO_at hf hr
  cases hv with
  | func f cap us hn hrr =>
    obtain ⟨h1, h2⟩ := evL_rel hr hx
    have hargs : RelVs g (xs ++ cap) (as.toList.map a.eval ++ us.toList) := RelVs.append ⟨by rw [h1]; simp, h2⟩ ⟨by simpa using hn, fun i c v hc hv => hrr i c v hc (by simpa using hv)⟩
    have e : (as.toList.map a.eval ++ us.toList).toArray = as.map a.eval ++ us := by
      apply Array.ext'; simp
    refine ⟨⟨.fn (.func fid) us, as.map a.eval⟩, ⟨_, _, _, rfl, hargs, ?_⟩, ?_⟩
    · rw [e]; rfl
    · simp [execOp, resolve, hev, Deferred.ofValue]
theorem evOps_sound {ops : List Oper} : ∀ {l : List Oper} {D D' : List DV} {e e' : Tr V} {H H' : Heap}, evOps P ti ng n call ops l D e H = some (D', e', H') → ∀ (g : G) (ds : List Deferred) (a : Act) (w : World), g.ng = ng → RelDs g D ds → RelAct g n ds e.get a → Sat g H w → wpList P ops.toArray (Post g n D' .normal e'.get H') l a w
  | [], D, D', e, e', H, H', h, g, ds, a, w, _, hD, hr, hs => by cases h; exact ⟨rfl, g, ds, G.le.refl g, hD, hr, hs⟩
  | o :: l, D, D', e, e', H, H', h, g, ds, a, w, hg, hD, hr, hs => by
    simp only [evOps] at h
    refine wpList_step fun K hK => ?_
    split at h <;> first | (cases h; done) | skip
    · rename_i hw
      rw [if_pos (wantedV_spec hw hr.rel)]
      split at h
      · rename_i x H1 hst
        split at h <;> first | (cases h; done) | skip
        rename_i e1 hput
        obtain ⟨hd, hget⟩ := putT_spec hput
        refine (evStep_sound ok hc hst g a w hg hr.rel hs).wp fun v w' ⟨g', hle, hrv, hs'⟩ => hK _ _ ?_
        have hr' := (hr.mono hle).put hd hrv
        rw [← hget] at hr'
        exact wpList_up hle (evOps_sound h g' ds _ w' (hle.ng.trans hg) (hD.mono hle) hr' hs')
      · split at h <;> first | (cases h; done) | skip
        rename_i d hdef
        split at h <;> first | (cases h; done) | skip
        rename_i e1 hput
        obtain ⟨hd, hget⟩ := putT_spec hput
        obtain ⟨t, ht, hrun⟩ := evDef_spec (P := P) (w := w) hdef hg hr.rel
        unfold Oper.wp
        rw [hrun]
        refine hK _ _ ?_
        have hr1 : RelAct g n (t :: ds) e.get { a with defers := t :: a.defers } := ⟨hr.size, by show t :: a.defers = t :: ds; rw [hr.defers], ⟨hr.rel.at_⟩⟩
        have hr' := hr1.put hd (RelV.undef (g := g))
        rw [← hget] at hr'
        exact evOps_sound h g (t :: ds) _ w hg ⟨ht, hD⟩ hr' hs
    · rename_i hw
      rw [if_neg (by rw [wantedV_spec hw hr.rel]; decide)]
      split at h <;> first | (cases h; done) | skip
      rename_i e1 hput
      obtain ⟨hd, hget⟩ := putT_spec hput
      have hr' := hr.put hd (RelV.undef (g := g))
      rw [← hget] at hr'
      exact hK _ _ (evOps_sound h g ds _ w hg hD hr' hs)

def LoopWP (P : Program) (c : Code) (Q : Exit → Act → World → Prop) (a : Act) (w : World) : Prop :=
  ∀ (b : Frame) (k : List Item) (cs : List Frame), ∃ e a' w', Q e a' w' ∧ Arrives P (lone (b.at a (.code c :: .inLoop c :: k)) cs w) b k cs e a' w'
include hm hx
theorem evC_sound : ∀ (f : Nat), (∀ (c : Code) (D D' : List DV) (e e' : Tr V) (H H' : Heap) (x : Ex), evC P ti ng call n f c D e H = some (x, D', e', H') → ∀ (g : G) (ds : List Deferred) (a : Act) (w : World), g.ng = ng → RelDs g D ds → RelAct g n ds e.get a → Sat g H w → c.wp P (Post g n D' x e'.get H') a w) ∧
    (∀ (c : Code) (D D' : List DV) (e e' : Tr V) (H H' : Heap) (x : Ex), evC P ti ng call n f (.loop c) D e H = some (x, D', e', H') → ∀ (g : G) (ds : List Deferred) (a : Act) (w : World), g.ng = ng → RelDs g D ds → RelAct g n ds e.get a → Sat g H w → LoopWP P c (Post g n D' x e'.get H') a w)
  | 0 => ⟨fun c D D' e e' H H' x h => (by cases h), fun c D D' e e' H H' x h => (by cases h)⟩
  | f + 1 => by
    obtain ⟨ihA, ihB⟩ := evC_sound f
    have loop : ∀ (c : Code) (D D' : List DV) (e e' : Tr V) (H H' : Heap) (x : Ex), evC P ti ng call n (f + 1) (.loop c) D e H = some (x, D', e', H') → ∀ (g : G) (ds : List Deferred) (a : Act) (w : World), g.ng = ng → RelDs g D ds → RelAct g n ds e.get a → Sat g H w → LoopWP P c (Post g n D' x e'.get H') a w := by
      intro c D D' e e' H H' x h g ds a w hg hD hr hs b k cs
      simp only [evC] at h
      cases hb : evC P ti ng call n f c D e H with
      | none => rw [hb] at h; cases h
      | some r =>
        obtain ⟨x1, D1, e1, H1⟩ := r
        rw [hb] at h
        obtain ⟨ex, a1, w1, ⟨hex, g1, ds1, hle, hD1, hr1, hs1⟩, harr⟩ := ihA c D D1 e e1 H H1 x1 hb g ds a w hg hD hr hs b (.inLoop c :: k) cs
        subst hex
        cases x1 with
        | normal =>
          simp only at h
          obtain ⟨ex2, a2, w2, hq2, harr2⟩ := ihB c D1 D' e1 e' H1 H' x h g1 ds1 a1 w1 (hle.ng.trans hg) hD1 hr1 hs1 b k cs
          exact ⟨ex2, a2, w2, hq2.up hle, .of_steps (Steps.trans harr (.one step_inLoop)) harr2⟩
        | exit id =>
          simp only at h
          cases h
          exact ⟨_, a1, w1, ⟨rfl, g1, ds1, hle, hD1, hr1, hs1⟩, .pass (x := .inLoop c) rfl (fun _ _ => .inl (by simp [Ex.out])) harr⟩
        | ret =>
          simp only at h
          cases h
          exact ⟨_, a1, w1, ⟨rfl, g1, ds1, hle, hD1, hr1, hs1⟩, .pass (x := .inLoop c) rfl (fun _ _ => .inl (by simp [Ex.out])) harr⟩
    refine ⟨?_, loop⟩
    intro c D D' e e' H H' x h g ds a w hg hD hr hs
    cases c with
    | skip => simp only [evC] at h; cases h; exact wp_skip ⟨rfl, g, ds, G.le.refl g, hD, hr, hs⟩
    | label l => simp only [evC] at h; cases h; exact wp_label ⟨rfl, g, ds, G.le.refl g, hD, hr, hs⟩
    | scope b =>
      simp only [evC] at h
      refine wp_scope_straight (wp_mono (ihA b D D' e e' H H' x h g ds a w hg hD hr hs) ?_)
      intro ex a1 w1 hq
      obtain ⟨hex, hrest⟩ := hq
      subst hex
      cases x <;> exact ⟨rfl, hrest⟩
    | exit id => simp only [evC] at h; cases h; exact wp_exit ⟨rfl, g, ds, G.le.refl g, hD, hr, hs⟩
    | ret => simp only [evC] at h; cases h; exact wp_ret ⟨rfl, g, ds, G.le.refl g, hD, hr, hs⟩
    | region id ops draw =>
      simp only [evC, evReg] at h
      have eops : ops.toList.toArray = ops := by simp
      cases draw with
      | true =>
        simp only [cond_true] at h
        cases hb : (Nat.beq (planFor id ops).length ops.toList.length && planOK ops (planFor id ops) (Array.replicate ops.size false)) with
        | false => rw [hb] at h; cases h
        | true =>
          rw [hb] at h
          simp only [cond_true] at h
          split at h <;> first | (cases h; done) | skip
          rename_i e1 H1 hp
          cases h
          simp only [Bool.and_eq_true] at hb
          have hlen := Nat.eq_of_beq_eq_true hb.1
          refine wp_region_any hm ?_
          have hX := XAny_of_plan (P := P) (ti := ti) (ng := ng) (n := n) (ops := ops.toList) (r0 := H.nn) hx (eF := e'.get) (HF := H') _ (Array.replicate ops.size false) [] e ⟨H.t, H.nn + ops.toList.length⟩ e' H' (by rw [eops]; exact hb.2) hp rfl (Heq.refl H')
          rw [hlen] at hX
          have hs2 : Sat g ⟨H.t, H.nn + ops.toList.length⟩ w.drew := hs.drew.same (fun _ => rfl) (Nat.le_add_right _ _)
          have := wpAny_of_XAny ok hc (ds := ds) (g0 := g) (Q' := Post g n D .normal e'.get H') (fun g' a' w' e2 H2 hle hr2 hs2 ⟨q1, q2⟩ => ⟨rfl, g', ds, hle, hD.mono hle, by rw [q1] at hr2; exact hr2, hs2.same (fun m => (q2.get' m).symm) (by rw [q2.nn]; exact Nat.le_refl _)⟩)
            ops.toList.length (Array.replicate ops.size false) [] g a w.drew e.get ⟨H.t, H.nn + ops.toList.length⟩ hg (G.le.refl g) hr hs2 hX
          rw [eops] at this
          simpa using this
      | false =>
        simp only [cond_false] at h
        split at h <;> first | (cases h; done) | skip
        rename_i D1 e1 H1 hp
        cases h
        have := wp_region_lit (id := id) (evOps_sound ok hc hp g ds a w hg hD hr hs)
        rwa [eops] at this
    | seq p q =>
      simp only [evC] at h
      cases ha : evC P ti ng call n f p D e H with
      | none => rw [ha] at h; cases h
      | some r =>
        obtain ⟨x1, D1, e1, H1⟩ := r
        rw [ha] at h
        refine wp_seq (wp_mono (ihA p D D1 e e1 H H1 x1 ha g ds a w hg hD hr hs) ?_)
        rintro ex a1 w1 ⟨hex, g1, ds1, hle, hD1, hr1, hs1⟩
        subst hex
        cases x1 with
        | normal => exact wp_mono (ihA q D1 D' e1 e' H1 H' x h g1 ds1 a1 w1 (hle.ng.trans hg) hD1 hr1 hs1) fun _ _ _ hq => hq.up hle
        | exit id => simp only at h; cases h; exact ⟨rfl, g1, ds1, hle, hD1, hr1, hs1⟩
        | ret => simp only at h; cases h; exact ⟨rfl, g1, ds1, hle, hD1, hr1, hs1⟩
    | cond cnd p q =>
      simp only [evC] at h
      split at h <;> first | (cases h; done) | skip
      · rename_i hcnd
        subst hg
        obtain ⟨v, he, hv⟩ := evO_at hcnd hr.rel
        cases hv
        exact wp_cond_true he (ihA p D D' e e' H H' x h g ds a w rfl hD hr hs)
      · rename_i hcnd
        subst hg
        obtain ⟨v, he, hv⟩ := evO_at hcnd hr.rel
        cases hv
        exact wp_cond_false he (ihA q D D' e e' H H' x h g ds a w rfl hD hr hs)
    | block id p =>
      simp only [evC] at h
      cases ha : evC P ti ng call n f p D e H with
      | none => rw [ha] at h; cases h
      | some r =>
        obtain ⟨x1, D1, e1, H1⟩ := r
        rw [ha] at h
        refine wp_block (wp_mono (ihA p D D1 e e1 H H1 x1 ha g ds a w hg hD hr hs) ?_)
        rintro ex a1 w1 ⟨hex, g1, ds1, hle, hD1, hr1, hs1⟩
        subst hex
        cases x1 with
        | normal => simp only at h; cases h; exact ⟨rfl, g1, ds1, hle, hD1, hr1, hs1⟩
        | ret => simp only at h; cases h; exact ⟨rfl, g1, ds1, hle, hD1, hr1, hs1⟩
        | exit i =>
          simp only at h
          simp only [Ex.out, Exit.inBlock]
          cases hb : Nat.beq i id with
          | true =>
            rw [hb] at h
            cases h
            rw [if_pos (Nat.eq_of_beq_eq_true hb)]
            exact ⟨rfl, g1, ds1, hle, hD1, hr1, hs1⟩
          | false =>
            rw [hb] at h
            cases h
            rw [if_neg (Nat.ne_of_beq_eq_false hb)]
            exact ⟨rfl, g1, ds1, hle, hD1, hr1, hs1⟩
    | loop p =>
      intro b k cs
      obtain ⟨ex, a', w', hq, harr⟩ := loop p D D' e e' H H' x h g ds a w hg hD hr hs b k cs
      exact ⟨ex, a', w', hq, .of_steps (.one step_loop) harr⟩
    | _ => simp [evC] at h
end

/-! ### calls -/
def resOf (tmps : Array Value) : ResultVar → Sem Value
  | .tmp t => pure (tmps.getD t undef)
  | .cell d t => do loadVar t (← asAddr (tmps.getD d undef))
theorem results_eq (fn : Func) (tmps : Array Value) : results fn tmps = (fn.results.mapM (resOf tmps) >>= fun vs => pure (if h : vs.size = 1 then vs[0] else .tuple vs)) := rfl
section
variable {P : Program} {ti : TI} (ok : TIok P ti)
include ok
theorem resL_run {g : G} {e : Lk} {a : Act} {H : Heap} {w : World} (k : RelE g e a) (s : Sat g H w) : ∀ {rs : List ResultVar} {xs : List V}, resL ti e H rs = some xs →
    ∃ vs : List Value, xs.length = vs.length ∧ (∀ (i : Nat) x v, xs[i]? = some x → vs[i]? = some v → RelV g x v) ∧ (rs.mapM (resOf a.tmps)).run P w = .ok vs w
  | [], xs, h => by cases h; exact ⟨[], rfl, fun i x v hx _ => by simp at hx, by simp⟩
  | r :: rs, xs, h => by
    simp only [resL] at h
    split at h <;> first | (cases h; done) | skip
    rename_i x hx
    split at h <;> first | (cases h; done) | skip
    rename_i ys hys
    cases h
    obtain ⟨vs, h1, h2, h3⟩ := resL_run k s hys
    have hv : ∃ v, RelV g x v ∧ (resOf a.tmps r).run P w = .ok v w := by
      cases r with
      | tmp t =>
        obtain ⟨v, hv, hr⟩ := k.at_ t x hx
        exact ⟨v, hr, by simp [resOf, hv]⟩
      | cell d T =>
        simp only [resV] at hx
        split at hx <;> first | (cases hx; done) | skip
        rename_i n o i hd hT
        split at hx <;> first | (cases hx; done) | skip
        rename_i cs hcs
        obtain ⟨u, hu, hr⟩ := k.at_ d _ hd
        cases hr with
        | ptr n o hb =>
          obtain ⟨v, hv, hrun⟩ := load_at ok s hT hcs hx
          exact ⟨v, hv, by simp [resOf, hu, asAddr, hrun]⟩
    obtain ⟨v, hv, hrun⟩ := hv
    refine ⟨v :: vs, by simp [h1], fun i y u hy hu => ?_, ?_⟩
    · cases i with
      | zero => simp at hy hu; subst hy; subst hu; exact hv
      | succ i => simp at hy hu; exact h2 i y u hy hu
    · rw [List.mapM_cons, Sem.run_bind, hrun, Result.andThen_ok, Sem.run_bind, h3, Result.andThen_ok, Sem.run_pure]
theorem results_run {g : G} {e : Lk} {a : Act} {H : Heap} {w : World} (k : RelE g e a) (s : Sat g H w) {fn : Func} {xs : List V} (h : resL ti e H fn.results.toList = some xs) : ∃ v, RelV g (packV xs) v ∧ (results fn a.tmps).run P w = .ok v w := by
  obtain ⟨vs, h1, h2, h3⟩ := resL_run ok k s h
  have hm : (fn.results.mapM (resOf a.tmps)).run P w = .ok vs.toArray w := by
    rw [Array.mapM_eq_mapM_toList, Sem.run_map, h3]; rfl
  rw [results_eq, Sem.run_bind]
  refine ⟨if h : vs.toArray.size = 1 then vs.toArray[0] else .tuple vs.toArray, ?_, ?_⟩
  · by_cases hsz : vs.toArray.size = 1
    · rw [dif_pos hsz]
      match vs, xs, h1, h2, hsz with
      | [v], [x], _, h2, _ => exact h2 0 x v rfl rfl
    · rw [dif_neg hsz]
      have hp : packV xs = .tuple xs := by
        match xs, h1 with
        | [], _ => rfl
        | [x], h1 => simp at hsz; simp at h1; omega
        | x :: y :: r, _ => rfl
      rw [hp]
      exact .tuple xs vs.toArray (by simp [h1]) (fun i x v hx hv => h2 i x v hx (by simpa using hv))
  · rw [hm]; rfl
end

theorem argT_get : ∀ (xs : List V) (i : Nat) (t : Tr V) (k : Nat) (x : V), (argT i xs t).get k = some x → (i ≤ k ∧ xs[k - i]? = some x) ∨ t.get k = some x
  | [], i, t, k, x, h => .inr h
  | y :: xs, i, t, k, x, h => by
    rcases argT_get xs (i + 1) _ k x h with ⟨h1, h2⟩ | h1
    · refine .inl ⟨by omega, ?_⟩
      rw [show k - i = (k - (i + 1)) + 1 by omega, List.getElem?_cons_succ]
      exact h2
    · rw [Tr.get_set] at h1
      by_cases e : k = i
      · rw [if_pos e] at h1
        exact .inl ⟨by omega, by rw [show k - i = 0 by omega]; simpa using h1⟩
      · rw [if_neg e] at h1; exact .inr h1

def NoNG (P : Program) : Prop := ∀ (f : Nat) (fn : Func), P.funcs[f]? = some fn → (fn.name == "runtime.NumGoroutine") = false
def ModOK (P : Program) (ng : Con) (isM : FuncId → List V → Bool) (mod : CallF → CallF) : Prop := ∀ call, CallOK P ng call → CallExt call → ∀ f xs H r H', isM f xs = true → mod call f xs H = some (r, H') → OCall P ng f xs H r H'
def IdleOK (P : Program) (idl : FuncId → List V → Bool) : Prop := ∀ f xs, idl f xs = true → Enters P f ∧ ∀ (g : G) (vs : List Value) (w : World), RelVs g xs vs → CallsD P f vs.toArray .returning w fun e u' w' => u' = .returning ∧ (∃ v, e = .returned v) ∧ Grow w w'
theorem enters {P : Program} (hn : NoNG P) {f : FuncId} {fn : Func} {c : Code} (hf : P.funcs[f]? = some fn) (hb : fn.body = some c) : Enters P f := by
  intro args w
  have h1 := hn f fn hf
  have h2 : fn.name ≠ "runtime.NumGoroutine" := by simpa using h1
  simp [callFunc, hf, h2, hb]
section
variable {P : Program} (hm : P.follows .mixedOrders = true) {ng : Con} {call : CallF} (hc : CallOK P ng call) (hx : CallExt call)
include hm hc hx
theorem evBody_sound {f : FuncId} {xs : List V} {H H1 : Heap} {D : List DV} {e : Tr V} {rs : List ResultVar} (h : evBody P (mkTy P) ng call f xs H = some (D, e, H1, rs)) :
    ∃ fn c, P.funcs[f]? = some fn ∧ fn.body = some c ∧ rs = fn.results.toList ∧ ∀ g vs w, g.ng = ng → RelVs g xs vs → Sat g H w →
      c.wp P (fun ex a w' => (ex = .normal ∨ ex = .ret) ∧ ∃ g' ds, g.le g' ∧ RelDs g' D ds ∧ RelAct g' fn.ntmps ds e.get a ∧ Sat g' H1 w') { tmps := vs.toArray ++ Array.replicate (fn.ntmps - vs.toArray.size) undef, defers := [] } w := by
  simp only [evBody] at h
  split at h <;> first | (cases h; done) | skip
  rename_i fi hfi
  obtain ⟨fn, c, hf, hb, rfl⟩ : ∃ fn c, P.funcs[f]? = some fn ∧ fn.body = some c ∧ fi = ⟨c, fn.ntmps, fn.results.toList⟩ := by
    unfold fnOf at hfi
    split at hfi <;> first | (cases hfi; done) | skip
    rename_i fn hf
    split at hfi <;> first | (cases hfi; done) | skip
    rename_i c hb
    cases hfi
    exact ⟨fn, c, hf, hb, rfl⟩
  obtain ⟨hle, h⟩ := cond_if h
  have hle := Nat.le_of_ble_eq_true hle
  cases hev : evC P (mkTy P) ng call fn.ntmps 100000 c [] (argT 0 xs .leaf) H with
  | none => rw [hev] at h; cases h
  | some q =>
    obtain ⟨x1, D1, e1, H4⟩ := q
    rw [hev] at h
    have hres : D = D1 ∧ e = e1 ∧ H1 = H4 ∧ rs = fn.results.toList ∧ (x1 = .normal ∨ x1 = .ret) := by
      cases x1 with
      | exit i => cases h
      | normal => cases h; exact ⟨rfl, rfl, rfl, rfl, .inl rfl⟩
      | ret => cases h; exact ⟨rfl, rfl, rfl, rfl, .inr rfl⟩
    obtain ⟨rfl, rfl, rfl, rfl, hx1⟩ := hres
    refine ⟨fn, c, hf, hb, rfl, ?_⟩
    intro g vs w hng ⟨hlen, hrel⟩ hs
    have hsz : (vs.toArray ++ Array.replicate (fn.ntmps - vs.toArray.size) undef).size = fn.ntmps := by simp; simp at hle; omega
    refine wp_mono ((evC_sound (mkTy_ok P) hm hc hx 100000).1 c [] _ _ _ H _ x1 hev g [] _ w hng trivial ⟨hsz, rfl, ⟨fun t x hx => ?_⟩⟩ hs) ?_
    · rcases argT_get xs 0 .leaf t x hx with ⟨_, hx⟩ | hx
      · have ht : t < xs.length := (List.getElem?_eq_some_iff.1 (by simpa using hx)).1
        have htv : t < vs.length := by omega
        exact ⟨vs[t], by simp [Array.getElem?_append, htv], hrel t x _ (by simpa using hx) (List.getElem?_eq_getElem htv)⟩
      · cases hx
    · rintro ex a' w' ⟨hex, g', ds, hle', hD', hr', hs'⟩
      refine ⟨?_, g', ds, hle', hD', hr', hs'⟩
      rcases hx1 with rfl | rfl
      · exact .inl hex
      · exact .inr hex
theorem evD_sound (hn : NoNG P) {f : FuncId} {xs : List V} {H H' : Heap} {r : V} (h : evD P (mkTy P) ng call f xs H = some (r, H')) : Enters P f ∧ ∀ g vs w, g.ng = ng → RelVs g xs vs → Sat g H w →
    CallsD P f vs.toArray .returning w fun e u' w' => u' = .returning ∧ ∃ v, e = .returned v ∧ ∃ g', g.le g' ∧ RelV g' r v ∧ Sat g' H' w' := by
  simp only [evD] at h
  split at h <;> first | (cases h; done) | skip
  rename_i e H1 rs hbody
  split at h <;> first | (cases h; done) | skip
  rename_i ys hys
  cases h
  obtain ⟨fn, c, hf, hb, rfl, hwp⟩ := evBody_sound hm hc hx hbody
  refine ⟨enters hn hf hb, fun g vs w hng hrel hs => callsD_of_wp hf hb (wp_mono (hwp g vs w hng hrel hs) ?_)⟩
  rintro ex a' w' ⟨hex, g', ds, hle', hD', hr', hs'⟩
  have hds : ds = [] := by
    cases ds with
    | nil => rfl
    | cons => exact hD'.elim
  subst hds
  obtain ⟨v, hv, hrun⟩ := results_run (mkTy_ok P) (fn := fn) hr'.rel hs' hys
  rcases hex with rfl | rfl
  · exact ⟨hr'.defers, v, hrun, v, rfl, g', hle', hv, hs'⟩
  · exact ⟨hr'.defers, v, hrun, v, rfl, g', hle', hv, hs'⟩
theorem evDs_sound (hn : NoNG P) {idl : FuncId → List V → Bool} (hI : IdleOK P idl) {fn : Func} {rs : List V} {e : Lk} : ∀ {D : List DV} {H H' : Heap}, evDs P (mkTy P) ng idl call D H = some H' → resL (mkTy P) e H' fn.results.toList = some rs → ∀ (g0 g : G) (ds : List Deferred) (a : Act) (w : World), g.ng = ng → g0.le g → RelDs g D ds → RelE g e a → Sat g H w →
    Leaves P fn a.tmps (fun en w' => ∃ v, en = .returned v ∧ ∃ g', g0.le g' ∧ RelV g' (packV rs) v ∧ Sat g' H' w') ds .returning w
  | [], H, H', h, hrs, g0, g, ds, a, w, hng, h0, hD, hr, hs => by
    cases h
    cases ds with
    | cons => exact hD.elim
    | nil =>
      obtain ⟨v, hv, hrun⟩ := results_run (mkTy_ok P) (fn := fn) hr hs hrs
      exact ⟨v, hrun, v, rfl, g, h0, hv, hs⟩
  | d :: D, H, H', h, hrs, g0, g, ds, a, w, hng, h0, hD, hr, hs => by
    simp only [evDs] at h
    cases ds with
    | nil => exact hD.elim
    | cons t ds =>
      obtain ⟨⟨fv, cap, vs, k1, k2, k3⟩, hD⟩ := hD
      cases hi : idl d.1 d.2 with
      | true =>
        simp only [hi, cond_true] at h
        obtain ⟨hent, hcall⟩ := hI _ _ hi
        refine ⟨by simp, fv, cap, d.1, vs.toArray, k1, by rw [k3]; exact hent _ _, CallsD.mono (hcall g vs w k2) ?_⟩
        rintro en u' w' ⟨rfl, ⟨v, rfl⟩, hgr⟩
        show Leaves P fn a.tmps _ ds (settle .returning) w'
        exact evDs_sound hn hI h hrs g0 g ds a w' hng h0 hD hr (hs.grows hgr)
      | false =>
        simp only [hi, cond_false] at h
        split at h <;> first | (cases h; done) | skip
        rename_i r H1 hd
        obtain ⟨hent, hcall⟩ := evD_sound hm hc hx hn hd
        refine ⟨by simp, fv, cap, d.1, vs.toArray, k1, by rw [k3]; exact hent _ _, CallsD.mono (hcall g vs w hng k2 hs) ?_⟩
        rintro en u' w' ⟨rfl, v, rfl, g', hle, _, hs'⟩
        show Leaves P fn a.tmps _ ds (settle .returning) w'
        exact evDs_sound hn hI h hrs g0 g' ds a w' (hle.ng.trans hng) (h0.trans hle) (hD.mono hle) (hr.mono hle) hs'
end
theorem evF_sound {P : Program} (hm : P.follows .mixedOrders = true) (hn : NoNG P) {ng : Con} {idl isM : FuncId → List V → Bool} {mod : CallF → CallF} (hI : IdleOK P idl) (hM : ModOK P ng isM mod) (hME : ModExt isM mod) : ∀ f, CallOK P ng (evF P (mkTy P) ng idl isM mod f)
  | 0 => fun _ _ _ _ _ h => by cases h
  | f + 1 => fun fid xs H r H' h => by
    have ih := evF_sound hm hn hI hM hME f
    have ihx := evF_ext (P := P) (ti := mkTy P) (ng := ng) (idl := idl) hME f
    simp only [evF] at h
    cases hg : isM fid xs with
    | true => rw [hg] at h; exact hM _ ih ihx _ _ _ _ _ hg h
    | false =>
      rw [hg] at h
      simp only [cond_false] at h
      split at h <;> first | (cases h; done) | skip
      rename_i D e H1 rs hbody
      split at h <;> first | (cases h; done) | skip
      rename_i H2 hds
      split at h <;> first | (cases h; done) | skip
      rename_i ys hys
      cases h
      obtain ⟨fn, c, hf, hb, rfl, hwp⟩ := evBody_sound hm ih ihx hbody
      refine .inl ⟨?_, enters hn hf hb⟩
      intro g vs w hng hrel hs
      refine calls_of_wp_defers hf hb (wp_mono (hwp g vs w hng hrel hs) ?_)
      rintro ex a' w' ⟨hex, g', ds, hle', hD', hr', hs'⟩
      have := evDs_sound hm ih ihx hn hI (fn := fn) hds hys g g' ds a' w' (hle'.ng.trans hng) hle' hD' hr'.rel hs'
      rw [← hr'.defers] at this
      rcases hex with rfl | rfl
      · exact this
      · exact this

end Go.Proofs.YtojblnldfdeefaaGreatDoor.Cc
