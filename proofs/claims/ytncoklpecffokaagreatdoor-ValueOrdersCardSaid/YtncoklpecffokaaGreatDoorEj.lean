/-
  The evaluator of closed calls, part 10: regions whose order is drawn: whatever order comes, it ends alike.
-/
import Derived.Test.YtncoklpecffokaaGreatDoorEi
namespace Go.Proofs.YtncoklpecffokaaGreatDoor.Cc
open Go Go.RowKit

/-! ### heaps that hold the same -/
abbrev Heq (H H2 : Heap) : Prop := Ext (fun _ => none) H H2
theorem Heq.refl (H : Heap) : Heq H H := ⟨rfl, fun _ _ => rfl, fun _ _ h => (by cases h), fun _ _ h => (by cases h)⟩
theorem Heq.of {H H2 : Heap} (h1 : H2.nn = H.nn) (h2 : ∀ n, H2.get n = H.get n) : Heq H H2 := ⟨h1, fun n _ => h2 n, fun _ _ h => (by cases h), fun _ _ h => (by cases h)⟩
theorem Heq.get' {H H2 : Heap} (h : Heq H H2) (n : Nat) : H2.get n = H.get n := h.out n rfl
theorem Heq.symm {H H2 : Heap} (h : Heq H H2) : Heq H2 H := Heq.of h.nn.symm fun n => (h.get' n).symm
theorem Heq.trans {A B C : Heap} (h : Heq A B) (k : Heq B C) : Heq A C := Heq.of (k.nn.trans h.nn) fun n => (k.get' n).trans (h.get' n)
theorem Ext.uniq {X : Nat → Option O} {H A B : Heap} (h : Ext X H A) (k : Ext X H B) : Heq A B := Heq.of (k.nn.trans h.nn.symm) fun n => by
  cases hx : X n with
  | none => rw [k.out n hx, h.out n hx]
  | some o => rw [k.inn n o hx, h.inn n o hx]
theorem Ext.eqv {X : Nat → Option O} {H A H2 A2 : Heap} (h : Ext X H A) (k : Heq H H2) (l : Heq A A2) : Ext X H2 A2 :=
  ⟨by rw [l.nn, h.nn, k.nn], fun n hn => by rw [l.get', h.out n hn, k.get'], fun n o hn => by rw [l.get', h.inn n o hn], fun n o hn => by rw [k.get', k.nn]; exact h.fresh n o hn⟩
def single (n : Nat) (b : O) : Nat → Option O := fun m => if m = n then some b else none
theorem freeName_spec {H : Heap} {n : Nat} (h : freeName H n = true) : H.get n = none ∧ n < H.nn := by
  unfold freeName at h
  simp only [Bool.and_eq_true] at h
  refine ⟨?_, by simpa [Nat.blt_eq] using h.2⟩
  cases hg : H.get n with
  | none => rfl
  | some x => rw [hg] at h; cases h.1
theorem freeName_of {H : Heap} {n : Nat} (h : H.get n = none) (hl : n < H.nn) : freeName H n = true := by
  unfold freeName
  rw [h]
  simpa [Nat.blt_eq] using hl
theorem ext_single {H : Heap} {n : Nat} (h : freeName H n = true) (b : O) : Ext (single n b) H (H.set n b) := by
  obtain ⟨h1, h2⟩ := freeName_spec h
  refine ⟨rfl, fun m hm => ?_, fun m o hm => ?_, fun m o hm => ?_⟩
  · have e : m ≠ n := by rintro rfl; simp [Cc.single] at hm
    rw [Heap.get_set, if_neg e]
  · have e : m = n := by
      by_cases e : m = n
      · exact e
      · simp [Cc.single, e] at hm
    subst e
    simp [Cc.single] at hm
    subst hm
    rw [Heap.get_set, if_pos rfl]
  · have e : m = n := by
      by_cases e : m = n
      · exact e
      · simp [Cc.single, e] at hm
    subst e
    exact ⟨h1, h2⟩

/-! ### slots -/
def fits (n : Nat) (d : Option Tmp) : Bool := match d with | some d => Nat.blt d n | none => true
theorem Lk.put_swap (e : Lk) {d d' : Option Tmp} (x y : V) (h : ∀ t, d = some t → d' ≠ some t) : (e.put d x).put d' y = (e.put d' y).put d x := by
  funext t
  cases d with
  | none => rfl
  | some d =>
    cases d' with
    | none => rfl
    | some d' =>
      have hne : d ≠ d' := fun e => h d rfl (by rw [e])
      simp only [Lk.put]
      cases h1 : Nat.beq t d' with
      | false => rfl
      | true =>
        cases h2 : Nat.beq t d with
        | false => rfl
        | true => exact absurd ((Nat.eq_of_beq_eq_true h2).symm.trans (Nat.eq_of_beq_eq_true h1)) hne
theorem Lk.only_put (l : List Nat) (e : Lk) {d : Option Tmp} (x : V) (h : ∀ t, d = some t → t ∉ l) : Lk.only l (e.put d x) = Lk.only l e := by
  funext t
  unfold Lk.only
  cases hc : l.contains t with
  | false => rfl
  | true =>
    cases d with
    | none => rfl
    | some d =>
      have hne : t ≠ d := by
        rintro rfl
        exact h t rfl (by simpa using hc)
      simp [Lk.put, beqF' hne]
where
  beqF' {k n : Nat} (h : k ≠ n) : Nat.beq k n = false := by
    cases e : Nat.beq k n with
    | true => exact absurd (Nat.eq_of_beq_eq_true e) h
    | false => rfl
theorem putT_spec {e e' : Tr V} {n : Nat} {d : Option Tmp} {x : V} (h : putT e n d x = some e') : fits n d = true ∧ e'.get = Lk.put e.get d x := by
  cases d with
  | none => cases h; exact ⟨rfl, rfl⟩
  | some d =>
    simp only [putT] at h
    obtain ⟨hb, h⟩ := cond_some h
    refine ⟨hb, ?_⟩
    subst h
    funext t
    rw [Tr.get_set]
    simp only [Lk.put]
    by_cases e : t = d
    · subst e; simp [Nat.beq_refl]
    · rw [if_neg e]
      cases hb : Nat.beq t d with
      | true => exact absurd (Nat.eq_of_beq_eq_true hb) e
      | false => rfl

structure RelAct (g : G) (n : Nat) (ds : List Deferred) (e : Lk) (a : Act) : Prop where
  size : a.tmps.size = n
  defers : a.defers = ds
  rel : RelE g e a
theorem RelAct.mono {g g' : G} (h : g.le g') {n : Nat} {ds : List Deferred} {e : Lk} {a : Act} (k : RelAct g n ds e a) : RelAct g' n ds e a := ⟨k.size, k.defers, k.rel.mono h⟩
theorem RelAct.put {g : G} {n : Nat} {ds : List Deferred} {e : Lk} {a : Act} (k : RelAct g n ds e a) {d : Option Tmp} (hd : fits n d = true) {x : V} {v : Value} (h : RelV g x v) : RelAct g n ds (e.put d x) (a.put d v) := by
  cases d with
  | none => exact k
  | some d =>
    have hlt : d < n := by simpa [fits, Nat.blt_eq] using hd
    refine ⟨by simp [Act.put, k.size], k.defers, ⟨fun t y hy => ?_⟩⟩
    simp only [Lk.put] at hy
    simp only [Act.put, Array.getElem?_setIfInBounds]
    cases hb : Nat.beq t d with
    | true =>
      rw [hb] at hy
      have : t = d := Nat.eq_of_beq_eq_true hb
      subst this
      cases hy
      exact ⟨v, by rw [if_pos rfl, if_pos (by rw [k.size]; exact hlt)], h⟩
    | false =>
      rw [hb] at hy
      have : d ≠ t := fun e => Nat.ne_of_beq_eq_false hb e.symm
      obtain ⟨u, hu, hr⟩ := k.rel.at_ t y hy
      exact ⟨u, by rw [if_neg this]; exact hu, hr⟩
theorem wantedV_spec {ops : List Oper} {e : Lk} {o : Oper} {b : Bool} (h : wantedV ops e o = some b) {g : G} {a : Act} (k : RelE g e a) : Region.wanted o (yielded ops.toArray a.tmps) = b := by
  unfold wantedV at h
  split at h
  · rename_i hg; cases h; simp [Region.wanted, hg]
  · rename_i j want hg
    split at h <;> first | (cases h; done) | skip
    rename_i p hp
    split at h <;> first | (cases h; done) | skip
    rename_i d hd
    split at h
    · rename_i b' hb
      cases h
      obtain ⟨v, hv, hr⟩ := k.at_ d _ hb
      cases hr
      simp only [Region.wanted, hg, yielded, List.getElem?_toArray, hp, Option.bind_some, hd, hv]
      cases b' <;> cases want <;> rfl
    · rename_i hb
      cases h
      obtain ⟨v, hv, hr⟩ := k.at_ d _ hb
      cases hr
      simp only [Region.wanted, hg, yielded, List.getElem?_toArray, hp, Option.bind_some, hd, hv, undef]
      rfl
    · cases h

section
variable {P : Program} {ti : TI} {ng : Con} {n : Nat} {call : CallF} {ops : List Oper} {r0 : Nat}

/-- What was read ahead is read alike. -/
def Obs (ti : TI) (j : Nat) (ob : List Ob) (H H' : Heap) : Prop := ∀ b ∈ ob, b.D.contains j = true ∨ b.holds ti H' = true ∨ ∃ X, Ext X H H'
/-- Whatever comes up next: it goes on to Q. -/
def XAny (P : Program) (ti : TI) (ng : Con) (n : Nat) (call : CallF) (ops : List Oper) (r0 : Nat) (Q : Lk → Heap → Prop) : Nat → Array Bool → List Ob → Lk → Heap → Prop
  | 0, listed, _, e, H => Region.ready .any ops.toArray listed = [] ∧ Q e H
  | f + 1, listed, ob, e, H => (Region.ready .any ops.toArray listed = [] → Q e H) ∧ ∀ j, j ∈ Region.ready .any ops.toArray listed →
      ∃ o x H', ops[j]? = some o ∧ fits n o.dst = true ∧ evR P ti ng call ops r0 (Lk.only (o.looksAt ops.toArray) e) H j o = some (x, H') ∧ Obs ti j ob H H' ∧
        XAny P ti ng n call ops r0 Q f (listed.setIfInBounds j true) ob (e.put o.dst x) H'

theorem XAny.eqv (hc : CallExt call) {Q : Lk → Heap → Prop} (hQ : ∀ e H H2, Heq H H2 → Q e H → Q e H2) : ∀ (f : Nat) (listed : Array Bool) (ob : List Ob) (e : Lk) (H H2 : Heap), Heq H H2 → XAny P ti ng n call ops r0 Q f listed ob e H → XAny P ti ng n call ops r0 Q f listed ob e H2
  | 0, _, _, _, _, _, h, ⟨h1, h2⟩ => ⟨h1, hQ _ _ _ h h2⟩
  | f + 1, listed, ob, e, H, H2, h, ⟨h1, h2⟩ => ⟨fun hr => hQ _ _ _ h (h1 hr), fun j hj => by
      obtain ⟨o, x, H', a1, a2, a3, a4, a5⟩ := h2 j hj
      obtain ⟨H2', b1, b2⟩ := evR_ext hc h rfl a3
      refine ⟨o, x, H2', a1, a2, b1, fun b hb => ?_, XAny.eqv hc hQ f _ ob _ H' H2' b2 a5⟩
      rcases a4 b hb with c | c | ⟨X, c⟩
      · exact .inl c
      · exact .inr (.inl (b2.holds c))
      · exact .inr (.inr ⟨X, c.eqv h b2⟩)⟩

/-- It is a wpAny, from whatever state stands for it. -/
theorem evR_sound (ok : TIok P ti) (hc : CallOK P ng call) {e : Lk} {H H' : Heap} {i : Nat} {o : Oper} {x : V} (h : evR P ti ng call ops r0 e H i o = some (x, H')) :
    (wantedV ops e o = some false ∧ x = .undef ∧ H' = H) ∨ (wantedV ops e o = some true ∧ AStep P ng o e H x H') := by
  unfold evR at h
  split at h
  · rename_i hw
    refine .inr ⟨hw, ?_⟩
    cases hA : isA o.op with
    | true =>
      rw [hA] at h
      simp only [cond_true] at h
      cases hf : freeName H (r0 + i) with
      | false => rw [hf] at h; cases h
      | true =>
        rw [hf] at h
        simp only [cond_true] at h
        split at h <;> first | (cases h; done) | skip
        rename_i y b hb
        cases h
        obtain ⟨h1, h2⟩ := freeName_spec hf
        exact evA_at ok hb h1 h2
    | false =>
      rw [hA] at h
      simp only [cond_false] at h
      split at h
      · rename_i y hy
        cases h
        exact (evP_sound ok hy).step H
      · exact evM_sound ok hc h
  · rename_i hw; cases h; exact .inl ⟨hw, rfl, rfl⟩
  · cases h
theorem wpAny_of_XAny (ok : TIok P ti) (hc : CallOK P ng call) {ds : List Deferred} {Q : Lk → Heap → Prop} {g0 : G} {Q' : Exit → Act → World → Prop} (hQ : ∀ g a w e H, g0.le g → RelAct g n ds e a → Sat g H w → Q e H → Q' .normal a w) :
    ∀ (f : Nat) (listed : Array Bool) (ob : List Ob) (g : G) (a : Act) (w : World) (e : Lk) (H : Heap), g0.ng = ng → g0.le g → RelAct g n ds e a → Sat g H w → XAny P ti ng n call ops r0 Q f listed ob e H → wpAny P .any ops.toArray Q' f listed a w
  | 0, _, _, g, a, w, e, H, _, hg, hr, hs, ⟨h0, hq⟩ => ⟨h0, hQ g a w e H hg hr hs hq⟩
  | f + 1, listed, ob, g, a, w, e, H, hng, hg, hr, hs, ⟨h0, h1⟩ => ⟨fun hr' => hQ g a w e H hg hr hs (h0 hr'), fun i hi => by
      obtain ⟨o, x, H', a1, a2, a3, _, a5⟩ := h1 i hi
      unfold wpOp
      simp only [List.getElem?_toArray, a1]
      rcases evR_sound ok hc a3 with ⟨hw, rfl, rfl⟩ | ⟨hw, hst⟩
      · rw [if_neg (by rw [wantedV_spec hw (hr.rel.only _)]; decide)]
        exact wpAny_of_XAny ok hc hQ f _ ob g _ w _ _ hng hg (hr.put a2 .undef) hs a5
      · rw [if_pos (wantedV_spec hw (hr.rel.only _))]
        exact .inl ((hst g a w (hg.ng.trans hng) (hr.rel.only _) hs).wp fun v w' ⟨g', hle, hrv, hs'⟩ =>
          wpAny_of_XAny ok hc hQ f _ ob g' _ w' _ H' hng (hg.trans hle) ((hr.mono hle).put a2 hrv) hs' a5)⟩
end

end Go.Proofs.YtncoklpecffokaaGreatDoor.Cc
