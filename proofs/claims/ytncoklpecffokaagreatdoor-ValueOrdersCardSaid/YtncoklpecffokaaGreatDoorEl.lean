/-
  The evaluator of closed calls, part 12: code and calls over heaps that hold more.
-/
import Derived.Test.YtncoklpecffokaaGreatDoorEk
namespace Go.Proofs.YtncoklpecffokaaGreatDoor.Cc
open Go Go.RowKit

section
theorem evStep_def {P : Program} {ti : TI} {ng : Con} {call : CallF} {e : Lk} {H : Heap} {o : Oper} {d : DV} (h : evDef ng e o = some d) : evStep P ti ng call e H o = none := by
  obtain ⟨dst, op, ty, pos, af, gd⟩ := o
  cases op <;> first | (simp [evDef] at h; done) | rfl
variable {P : Program} {ti : TI} {ng : Con} {n : Nat} {call : CallF} (hc : CallExt call) {X : Nat → Option O}
include hc
theorem evOps_ext {ops : List Oper} : ∀ {l : List Oper} {D D' : List DV} {e e' : Tr V} {H H' H2 : Heap}, evOps P ti ng n call ops l D e H = some (D', e', H') → Ext X H H2 → ∃ H2', evOps P ti ng n call ops l D e H2 = some (D', e', H2') ∧ Ext X H' H2'
  | [], D, D', e, e', H, H', H2, h, x => by cases h; exact ⟨H2, rfl, x⟩
  | o :: l, D, D', e, e', H, H', H2, h, x => by
    simp only [evOps] at h ⊢
    split at h <;> first | (cases h; done) | skip
    · split at h
      · rename_i y H1 hs
        obtain ⟨H3, a1, a2⟩ := evStep_ext hc x hs
        rw [a1]
        simp only
        split at h <;> first | (cases h; done) | skip
        exact evOps_ext h a2
      · rename_i hs
        split at h <;> first | (cases h; done) | skip
        rename_i d hd
        rw [evStep_def hd]
        simp only
        split at h <;> first | (cases h; done) | skip
        exact evOps_ext h x
    · split at h <;> first | (cases h; done) | skip
      exact evOps_ext h x
omit hc in
theorem evFree_ext {ops : List Oper} {e : Lk} {H H2 : Heap} {D : List Nat} {o : Oper} {r : V × List Ob} (x : Ext X H H2) (h : evFree P ti ng ops e H D o = some r) : evFree P ti ng ops e H2 D o = some r := by
  unfold evFree at h ⊢
  split at h
  · rename_i hw
    split at h
    · exact h
    · split at h <;> first | (cases h; done) | skip
      split at h <;> first | (cases h; done) | skip
      split at h <;> first | (cases h; done) | skip
      rename_i y hl
      rw [x.load hl]
      exact h
  · exact h
  · cases h
theorem evPlan_ext {ops : List Oper} {r0 : Nat} (hX : ∀ m, r0 ≤ m → X m = none) : ∀ {pl : List PS} {ob : List Ob} {e e' : Tr V} {H H' H2 : Heap}, evPlan P ti ng n call ops r0 pl ob e H = some (e', H') → Ext X H H2 → ∃ H2', evPlan P ti ng n call ops r0 pl ob e H2 = some (e', H2') ∧ Ext X H' H2'
  | [], ob, e, e', H, H', H2, h, x => by cases h; exact ⟨H2, rfl, x⟩
  | .free i D :: l, ob, e, e', H, H', H2, h, x => by
    simp only [evPlan] at h ⊢
    split at h <;> first | (cases h; done) | skip
    split at h <;> first | (cases h; done) | skip
    rename_i y ob' hf
    rw [evFree_ext x hf]
    simp only
    split at h <;> first | (cases h; done) | skip
    exact evPlan_ext hX h x
  | .late j A :: l, ob, e, e', H, H', H2, h, x => by
    simp only [evPlan] at h ⊢
    have hfr : (A.all fun i => freeName H2 (r0 + i)) = (A.all fun i => freeName H (r0 + i)) := by
      congr 1
      funext i
      exact ext_freeName x (hX _ (by omega))
    rw [hfr]
    cases hb : (A.all fun i => freeName H (r0 + i)) with
    | false => rw [hb] at h; cases h
    | true =>
      rw [hb] at h
      simp only [cond_true] at h ⊢
      split at h <;> first | (cases h; done) | skip
      split at h <;> first | (cases h; done) | skip
      rename_i y H1 hev
      obtain ⟨H3, a1, a2⟩ := evR_ext hc x (hX _ (by omega)) hev
      rw [a1]
      simp only
      cases hob : (ob.all fun b => b.D.contains j || b.holds ti H1) with
      | false => rw [hob] at h; cases h
      | true =>
        rw [hob] at h
        have hob2 : (ob.all fun b => b.D.contains j || b.holds ti H3) = true := by
          rw [List.all_eq_true] at hob ⊢
          intro b hb
          have := hob b hb
          simp only [Bool.or_eq_true] at this ⊢
          exact this.imp id fun q => a2.holds q
        rw [hob2]
        simp only [cond_true] at h ⊢
        split at h <;> first | (cases h; done) | skip
        exact evPlan_ext hX h a2
theorem evC_ext : ∀ {f : Nat} {c : Code} {D D' : List DV} {e e' : Tr V} {H H' H2 : Heap} {x : Ex}, evC P ti ng call n f c D e H = some (x, D', e', H') → Ext X H H2 → ∃ H2', evC P ti ng call n f c D e H2 = some (x, D', e', H2') ∧ Ext X H' H2'
  | 0, c, D, D', e, e', H, H', H2, x, h, k => by cases h
  | f + 1, c, D, D', e, e', H, H', H2, x, h, k => by
    have ih := @evC_ext f
    cases c with
    | skip => simp only [evC, evReg] at h ⊢; cases h; exact ⟨H2, rfl, k⟩
    | label l => simp only [evC, evReg] at h ⊢; cases h; exact ⟨H2, rfl, k⟩
    | exit id => simp only [evC, evReg] at h ⊢; cases h; exact ⟨H2, rfl, k⟩
    | ret => simp only [evC, evReg] at h ⊢; cases h; exact ⟨H2, rfl, k⟩
    | region id ops draw =>
      simp only [evC, evReg] at h ⊢
      cases draw with
      | true =>
        simp only [cond_true] at h ⊢
        cases hb : (Nat.beq (mkPlan ops ops.toList.length (Array.replicate ops.size false)).length ops.toList.length && planOK ops (mkPlan ops ops.toList.length (Array.replicate ops.size false)) (Array.replicate ops.size false)) with
        | false => rw [hb] at h; cases h
        | true =>
          rw [hb] at h
          simp only [cond_true] at h ⊢
          split at h <;> first | (cases h; done) | skip
          rename_i e1 H1 hp
          cases h
          rw [k.nn]
          have k2 := k.bump ops.toList.length
          rw [k.nn] at k2
          obtain ⟨H3, a1, a2⟩ := evPlan_ext (r0 := H.nn) hc (fun m hm => k.free_nn hm) hp k2
          rw [a1]
          exact ⟨_, rfl, a2⟩
      | false =>
        simp only [cond_false] at h ⊢
        split at h <;> first | (cases h; done) | skip
        rename_i D1 e1 H1 hp
        cases h
        obtain ⟨H3, a1, a2⟩ := evOps_ext hc hp k
        rw [a1]
        exact ⟨_, rfl, a2⟩
    | seq a b =>
      simp only [evC, evReg] at h ⊢
      cases ha : evC P ti ng call n f a D e H with
      | none => rw [ha] at h; cases h
      | some r =>
        obtain ⟨x1, D1, e1, H1⟩ := r
        obtain ⟨H3, a1, a2⟩ := ih ha k
        rw [ha] at h
        rw [a1]
        cases x1 with
        | normal => exact ih h a2
        | exit i => simp only at h ⊢; cases h; exact ⟨_, rfl, a2⟩
        | ret => simp only at h ⊢; cases h; exact ⟨_, rfl, a2⟩
    | cond c a b =>
      simp only [evC, evReg] at h ⊢
      split at h <;> first | (cases h; done) | skip
      · exact ih h k
      · exact ih h k
    | block id b =>
      simp only [evC, evReg] at h ⊢
      cases ha : evC P ti ng call n f b D e H with
      | none => rw [ha] at h; cases h
      | some r =>
        obtain ⟨x1, D1, e1, H1⟩ := r
        obtain ⟨H3, a1, a2⟩ := ih ha k
        rw [ha] at h
        rw [a1]
        cases x1 with
        | normal => simp only at h ⊢; cases h; exact ⟨_, rfl, a2⟩
        | exit i =>
          simp only at h ⊢
          cases hb : Nat.beq i id with
          | true => rw [hb] at h; cases h; exact ⟨_, rfl, a2⟩
          | false => rw [hb] at h; cases h; exact ⟨_, rfl, a2⟩
        | ret => simp only at h ⊢; cases h; exact ⟨_, rfl, a2⟩
    | loop b =>
      simp only [evC, evReg] at h ⊢
      cases ha : evC P ti ng call n f b D e H with
      | none => rw [ha] at h; cases h
      | some r =>
        obtain ⟨x1, D1, e1, H1⟩ := r
        obtain ⟨H3, a1, a2⟩ := ih ha k
        rw [ha] at h
        rw [a1]
        cases x1 with
        | normal => exact ih h a2
        | exit i => simp only at h ⊢; cases h; exact ⟨_, rfl, a2⟩
        | ret => simp only at h ⊢; cases h; exact ⟨_, rfl, a2⟩
    | _ => simp [evC] at h
end

theorem resL_ext {ti : TI} {X : Nat → Option O} {e : Lk} {H H2 : Heap} (x : Ext X H H2) : ∀ {rs : List ResultVar} {xs : List V}, resL ti e H rs = some xs → resL ti e H2 rs = some xs
  | [], xs, h => h
  | r :: rs, xs, h => by
    simp only [resL] at h ⊢
    split at h <;> first | (cases h; done) | skip
    rename_i y hy
    have hy2 : resV ti e H2 r = some y := by
      unfold resV at hy ⊢
      split at hy
      · exact hy
      · split at hy <;> first | (cases hy; done) | skip
        split at hy <;> first | (cases hy; done) | skip
        rename_i cs hcs
        rw [x.cells hcs]
        exact hy
    rw [hy2]
    simp only
    split at h <;> first | (cases h; done) | skip
    rename_i ys hys
    rw [resL_ext x hys]
    exact h
theorem cond_if {α : Type} {b : Bool} {x : Option α} {y : α} (h : cond b x none = some y) : b = true ∧ x = some y := by
  cases b <;> simp_all
theorem evBody_ext {P : Program} {ti : TI} {ng : Con} {call : CallF} (hc : CallExt call) {X : Nat → Option O} {g : FuncId} {xs : List V} {H H1 H2 : Heap} {D : List DV} {e : Tr V} {rs : List ResultVar} (h : evBody P ti ng call g xs H = some (D, e, H1, rs)) (k : Ext X H H2) :
    ∃ H3, evBody P ti ng call g xs H2 = some (D, e, H3, rs) ∧ Ext X H1 H3 := by
  simp only [evBody] at h ⊢
  split at h <;> first | (cases h; done) | skip
  rename_i fi hfi
  obtain ⟨hb, h⟩ := cond_if h
  rw [hb]
  simp only [cond_true]
  cases hev : evC P ti ng call fi.ntmps 100000 fi.body [] (argT 0 xs .leaf) H with
  | none => rw [hev] at h; cases h
  | some q =>
    obtain ⟨x1, D1, e1, H4⟩ := q
    obtain ⟨H3, a1, a2⟩ := evC_ext hc hev k
    rw [hev] at h
    rw [a1]
    cases x1 with
    | exit i => cases h
    | normal => cases h; exact ⟨_, rfl, a2⟩
    | ret => cases h; exact ⟨_, rfl, a2⟩
theorem evD_ext {P : Program} {ti : TI} {ng : Con} {call : CallF} (hc : CallExt call) {X : Nat → Option O} {g : FuncId} {xs : List V} {H H1 H2 : Heap} {r : V} (h : evD P ti ng call g xs H = some (r, H1)) (k : Ext X H H2) :
    ∃ H3, evD P ti ng call g xs H2 = some (r, H3) ∧ Ext X H1 H3 := by
  simp only [evD] at h ⊢
  split at h <;> first | (cases h; done) | skip
  rename_i e H4 rs hb
  obtain ⟨H3, a1, a2⟩ := evBody_ext hc hb k
  rw [a1]
  simp only
  split at h <;> first | (cases h; done) | skip
  rename_i ys hys
  cases h
  rw [resL_ext a2 hys]
  exact ⟨_, rfl, a2⟩
theorem evDs_ext {P : Program} {ti : TI} {ng : Con} {call : CallF} (hc : CallExt call) {X : Nat → Option O} : ∀ {D : List DV} {H H1 H2 : Heap}, evDs P ti ng call D H = some H1 → Ext X H H2 → ∃ H3, evDs P ti ng call D H2 = some H3 ∧ Ext X H1 H3
  | [], H, H1, H2, h, k => by cases h; exact ⟨_, rfl, k⟩
  | d :: D, H, H1, H2, h, k => by
    simp only [evDs] at h ⊢
    split at h <;> first | (cases h; done) | skip
    rename_i hd
    obtain ⟨H3, a1, a2⟩ := evD_ext hc hd k
    rw [a1]
    exact evDs_ext hc h a2
/-- Known contracts are alike over heaps that hold more. -/
def ModExt (isM : FuncId → List V → Bool) (mod : CallF → CallF) : Prop := ∀ call, CallExt call → ∀ f xs H r H' X H2, isM f xs = true → mod call f xs H = some (r, H') → Ext X H H2 → ∃ H2', mod call f xs H2 = some (r, H2') ∧ Ext X H' H2'
theorem evF_ext {P : Program} {ti : TI} {ng : Con} {isM : FuncId → List V → Bool} {mod : CallF → CallF} (hm : ModExt isM mod) : ∀ f, CallExt (evF P ti ng isM mod f)
  | 0 => fun _ _ _ _ _ _ _ h _ => by cases h
  | f + 1 => fun g xs H r H' X H2 h k => by
    have ih := evF_ext (P := P) (ti := ti) (ng := ng) hm f
    simp only [evF] at h ⊢
    cases hg : isM g xs with
    | true =>
      rw [hg] at h
      exact hm _ ih _ _ _ _ _ _ _ hg h k
    | false =>
      rw [hg] at h
      simp only [cond_false] at h ⊢
      split at h <;> first | (cases h; done) | skip
      rename_i D e H1 rs hb
      obtain ⟨H3, a1, a2⟩ := evBody_ext ih hb k
      rw [a1]
      simp only
      split at h <;> first | (cases h; done) | skip
      rename_i H4 hd
      obtain ⟨H5, b1, b2⟩ := evDs_ext ih hd a2
      rw [b1]
      simp only
      split at h <;> first | (cases h; done) | skip
      rename_i ys hys
      cases h
      rw [resL_ext b2 hys]
      exact ⟨_, rfl, b2⟩

end Go.Proofs.YtncoklpecffokaaGreatDoor.Cc
