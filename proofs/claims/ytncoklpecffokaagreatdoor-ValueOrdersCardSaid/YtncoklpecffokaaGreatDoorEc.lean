/-
  The evaluator of closed calls, part 3: the operations that ask nothing of memory come to what 'evP' says.
-/
import Derived.Test.YtncoklpecffokaaGreatDoorEb
namespace Go.Proofs.YtncoklpecffokaaGreatDoor.Cc
open Go Go.RowKit

/-- The slots' values stand for their data. -/
structure RelE (g : G) (e : Lk) (a : Act) : Prop where
  at_ : ∀ t x, e t = some x → ∃ v, a.tmps[t]? = some v ∧ RelV g x v
theorem RelE.mono {g g' : G} (h : g.le g') {e : Lk} {a : Act} (k : RelE g e a) : RelE g' e a := ⟨fun t x hx => let ⟨v, hv, hr⟩ := k.at_ t x hx; ⟨v, hv, hr.mono h⟩⟩
theorem RelE.only {g : G} {e : Lk} {a : Act} (l : List Nat) (k : RelE g e a) : RelE g (Lk.only l e) a := ⟨fun t x hx => by
  unfold Lk.only at hx
  cases hc : l.contains t with
  | true => rw [hc] at hx; exact k.at_ t x hx
  | false => rw [hc] at hx; cases hx⟩

structure TIok (P : Program) (ti : TI) : Prop where
  und : ∀ T i, ti T = some i → P.underlying T = some i.und
  agg : ∀ T i, ti T = some i → i.agg = aggDesc i.und
  info : ∀ T i, ti T = some i → ∃ f, P.info? T = some f ∧ f.size = i.size ∧ f.bytes = i.bytes ∧ ∃ z, f.zero = some z ∧ ∀ g, RelV g i.zero z

section
variable {P : Program} {ti : TI} (ok : TIok P ti)
include ok
theorem TIok.run_underlying {T : TypeId} {i : TyI} (h : ti T = some i) (w : World) : (underlying T).run P w = .ok i.und w := by
  simp [underlying, ok.und T i h]
theorem TIok.run_typeInfo {T : TypeId} {i : TyI} (h : ti T = some i) : ∃ f, (∀ w, (typeInfo T).run P w = .ok f w) ∧ f.size = i.size ∧ f.bytes = i.bytes ∧ ∃ z, f.zero = some z ∧ ∀ g, RelV g i.zero z := by
  obtain ⟨f, h1, h2⟩ := ok.info T i h
  exact ⟨f, fun w => by simp [typeInfo, h1], h2⟩
theorem TIok.run_sizeOf {T : TypeId} {i : TyI} (h : ti T = some i) (w : World) : (sizeOf T).run P w = .ok i.size w := by
  obtain ⟨f, h1, h2, _⟩ := ok.run_typeInfo h
  simp [sizeOf, h1, h2]
theorem TIok.run_zeroValue {T : TypeId} {i : TyI} (h : ti T = some i) : ∃ z, (∀ g, RelV g i.zero z) ∧ ∀ w, (zeroValue T).run P w = .ok z w := by
  obtain ⟨f, h1, _, _, z, h4, h5⟩ := ok.info T i h
  exact ⟨z, h5, fun w => by simp [zeroValue, typeInfo, h1, h4]⟩
theorem TIok.run_isAgg {T : TypeId} {i : TyI} (h : ti T = some i) (w : World) : (isAgg T).run P w = .ok i.agg w := by
  rw [ok.agg T i h]
  unfold isAgg
  rw [Sem.run_bind, ok.run_underlying h, Result.andThen_ok]
  cases i.und <;> rfl
end

/-! ### constants, operands -/
theorem const1_rel (g : G) {v : Value} {x : V} (h : const1 v = some x) : RelV g x v := by
  unfold const1 at h
  split at h
  · cases h; exact .bool _
  · cases h; exact .int _ _
  · rename_i s
    cases hb : Nat.ble s.data.toList.length maxLen with
    | false => rw [hb] at h; cases h
    | true => rw [hb] at h; cases h; exact .str _ (Nat.le_of_ble_eq_true hb)
  · cases h; exact .nilp
  · cases h; exact .nilS
  · cases h; exact .nilM
  · cases h; exact .nilF
  · cases h; exact .nilI
  · cases h
theorem constL_rel (g : G) : ∀ {vs : List Value} {xs : List V}, constL vs = some xs → xs.length = vs.length ∧ ∀ (i : Nat) x v, xs[i]? = some x → vs[i]? = some v → RelV g x v
  | [], xs, h => by cases h; exact ⟨rfl, fun i x v hx _ => by simp at hx⟩
  | v :: vs, xs, h => by
    unfold constL at h
    cases h1 : const1 v with
    | none => rw [h1] at h; cases h
    | some x =>
      rw [h1] at h
      cases h2 : constL vs with
      | none => rw [h2] at h; cases h
      | some ys =>
        rw [h2] at h
        cases h
        obtain ⟨h3, h4⟩ := constL_rel g h2
        refine ⟨by simp [h3], fun i y u hy hu => ?_⟩
        cases i with
        | zero => simp at hy hu; subst hy; subst hu; exact const1_rel g h1
        | succ i => simp at hy hu; exact h4 i y u hy hu
theorem constV_rel (g : G) {v : Value} {x : V} (h : constV v = some x) : RelV g x v := by
  unfold constV at h
  split at h
  · rename_i vs
    cases h1 : constL vs.toList with
    | none => rw [h1] at h; cases h
    | some xs =>
      rw [h1] at h; cases h
      obtain ⟨h2, h3⟩ := constL_rel g h1
      exact .agg xs vs (by simpa using h2) fun i c u hc hu => h3 i c u hc (by simpa using hu)
  · rename_i t v
    cases h1 : const1 v with
    | none => rw [h1] at h; cases h
    | some x => rw [h1] at h; cases h; exact .iface t x v (const1_rel g h1)
  · exact const1_rel g h
theorem evO_rel {g : G} {e : Lk} {a : Act} {o : Operand} {x : V} (h : evO g.ng e o = some x) (k : RelE g e a) : RelV g x (a.eval o) := by
  cases o with
  | tmp t =>
    obtain ⟨v, hv, hr⟩ := k.at_ t x h
    show RelV g x (a.tmps.getD t Go.undef)
    simpa [hv] using hr
  | const v => exact constV_rel g h
  | func f => cases h; exact .func f [] #[] rfl (fun i c v hc _ => by simp at hc)
  | global b =>
    simp only [evO] at h
    cases hb : Nat.blt b g.ng.n with
    | false => rw [hb] at h; cases h
    | true =>
      rw [hb] at h; cases h
      have hlt : b < g.ng.n := by simpa [Nat.blt_eq] using hb
      obtain ⟨h1, h2⟩ := g.gl b hlt
      have := RelV.ptr (g := g) b 0 h1
      rw [h2] at this
      exact this
/-- What an operand's value is, by its datum. -/
theorem evO_at {g : G} {e : Lk} {a : Act} {o : Operand} {x : V} (h : evO g.ng e o = some x) (k : RelE g e a) : ∃ v, a.eval o = v ∧ RelV g x v := ⟨_, rfl, evO_rel h k⟩
theorem evL_rel {g : G} {e : Lk} {a : Act} (k : RelE g e a) : ∀ {os : List Operand} {xs : List V}, evL g.ng e os = some xs → xs.length = os.length ∧ ∀ (i : Nat) x v, xs[i]? = some x → (os.map a.eval)[i]? = some v → RelV g x v
  | [], xs, h => by cases h; exact ⟨rfl, fun i x v hx _ => by simp at hx⟩
  | o :: os, xs, h => by
    unfold evL at h
    cases h1 : evO g.ng e o with
    | none => rw [h1] at h; cases h
    | some x =>
      rw [h1] at h
      cases h2 : evL g.ng e os with
      | none => rw [h2] at h; cases h
      | some ys =>
        rw [h2] at h
        cases h
        obtain ⟨h3, h4⟩ := evL_rel k h2
        refine ⟨by simp [h3], fun i y u hy hu => ?_⟩
        cases i with
        | zero => simp at hy hu; subst hy; subst hu; exact evO_rel h1 k
        | succ i => simp only [List.getElem?_cons_succ, List.map_cons] at hy hu; exact h4 i y u hy hu

theorem mkTy_ok (P : Program) : TIok P (mkTy P) := by
  have key : ∀ T i, mkTy P T = some i → ∃ u f z x, P.underlying T = some u ∧ P.info? T = some f ∧ f.zero = some z ∧ constV z = some x ∧ i = ⟨u, f.size, f.bytes, aggDesc u, x⟩ := by
    intro T i h
    unfold mkTy at h
    split at h
    · rename_i u f hu hf
      cases hz : f.zero with
      | none => rw [hz] at h; cases h
      | some z =>
        rw [hz] at h
        simp only at h
        cases hx : constV z with
        | none => rw [hx] at h; cases h
        | some x => rw [hx] at h; cases h; exact ⟨u, f, z, x, hu, hf, hz, hx, rfl⟩
    · cases h
  refine ⟨fun T i h => ?_, fun T i h => ?_, fun T i h => ?_⟩
  · obtain ⟨u, f, z, x, h1, h2, h3, h4, rfl⟩ := key T i h; exact h1
  · obtain ⟨u, f, z, x, h1, h2, h3, h4, rfl⟩ := key T i h; rfl
  · obtain ⟨u, f, z, x, h1, h2, h3, h4, rfl⟩ := key T i h; exact ⟨f, h2, rfl, rfl, z, h3, fun g => constV_rel g h4⟩

/-! ### plain data: as the model itself runs -/
theorem pureRun_run {P : Program} {α : Type} {s : Sem α} {x : α} (h : pureRun P s = some x) (w : World) : s.run P w = .ok x w := by
  induction s with
  | pure a => simp [pureRun] at h; subst h; rfl
  | program k ih => exact ih P h
  | mark m k ih => exact ih h
  | _ => cases h
theorem val1_rel {g : G} {x : V} {v u : Value} (h : x.val1 = some v) (k : RelV g x u) : u = v := by
  cases k <;> simp [V.val1] at h <;> exact h
theorem valL_rel {g : G} : ∀ {xs : List V} {vs : List Value}, V.valL xs = some vs → ∀ {us : List Value}, xs.length = us.length → (∀ (i : Nat) x u, xs[i]? = some x → us[i]? = some u → RelV g x u) → us = vs
  | [], vs, h, us, hl, _ => by cases h; cases us with | nil => rfl | cons => simp at hl
  | x :: xs, vs, h, us, hl, hr => by
    unfold V.valL at h
    cases h1 : V.val1 x with
    | none => rw [h1] at h; cases h
    | some v =>
      rw [h1] at h
      cases h2 : V.valL xs with
      | none => rw [h2] at h; cases h
      | some ws =>
        rw [h2] at h
        cases h
        cases us with
        | nil => simp at hl
        | cons u us =>
          have e1 := val1_rel h1 (hr 0 x u rfl rfl)
          have e2 := valL_rel h2 (us := us) (by simpa using hl) (fun i y z hy hz => hr (i + 1) y z (by simpa using hy) (by simpa using hz))
          rw [e1, e2]
theorem val_rel {g : G} {x : V} {v u : Value} (h : x.val = some v) (k : RelV g x u) : u = v := by
  have k' := k
  cases k with
  | agg cs vs hn hr =>
    simp only [V.val] at h
    cases h1 : V.valL cs with
    | none => rw [h1] at h; cases h
    | some ws =>
      rw [h1] at h; cases h
      have := valL_rel (g := g) h1 (us := vs.toList) (by simpa using hn) (fun i c z hc hz => hr i c z hc (by simpa using hz))
      rw [← this]
  | iface t y z hz =>
    simp only [V.val] at h
    cases h1 : V.val1 y with
    | none => rw [h1] at h; cases h
    | some ws => rw [h1] at h; cases h; rw [val1_rel h1 hz]
  | _ => exact val1_rel (g := g) (by simpa only [V.val] using h) k'

/-- The operations that may be run on plain data. -/
def scalarOp : Op → Bool
  | .binOp _ _ _ _ _ | .unOp _ _ _ | .convert _ _ _ | .index _ _ _ | .slice _ _ _ _ none => true
  | .call { callee := .builtin _, .. } => true
  | _ => false
theorem execOp_congr {ρ ρ' : Operand → Value} {o : Oper} (hs : scalarOp o.op = true) (h : ∀ x ∈ o.op.operands.toList, ρ x = ρ' x) : execOp ρ o = execOp ρ' o := by
  obtain ⟨dst, op, ty, pos, af, gd⟩ := o
  cases op with
  | binOp op T x y T' =>
    have h1 := h x (by simp [Op.operands]); have h2 := h y (by simp [Op.operands])
    simp only [execOp, h1, h2]
  | unOp op T x =>
    have h1 := h x (by simp [Op.operands])
    simp only [execOp, h1]
  | convert S T x =>
    have h1 := h x (by simp [Op.operands])
    simp only [execOp, h1]
  | index T x y =>
    have h1 := h x (by simp [Op.operands]); have h2 := h y (by simp [Op.operands])
    simp only [execOp, h1, h2]
  | slice T x lo hi mx =>
    cases mx with
    | some m => simp [scalarOp] at hs
    | none =>
      have h1 := h x (by simp [Op.operands])
      have h2 : lo.map ρ = lo.map ρ' := by
        cases lo with
        | none => rfl
        | some l => have := h l (by simp [Op.operands]); simp [this]
      have h3 : hi.map ρ = hi.map ρ' := by
        cases hi with
        | none => rfl
        | some l => have := h l (by simp [Op.operands]); simp [this]
      simp only [execOp, h1, h2, h3, Option.map_none]
  | call c =>
    obtain ⟨cal, as, ts⟩ := c
    cases cal with
    | builtin b =>
      have h1 : as.map ρ = as.map ρ' := Array.map_congr_left fun x hx => h x (by simpa [Op.operands, Call.operands] using hx)
      simp only [execOp, resolve, h1]
    | _ => simp [scalarOp] at hs
  | _ => simp [scalarOp] at hs

/-- One operation that asks nothing of memory, and leaves it alone. -/
def APure (P : Program) (ng : Con) (o : Oper) (e : Lk) (x : V) : Prop :=
  ∀ g a, g.ng = ng → RelE g e a → ∃ v, RelV g x v ∧ ∀ w, (execOp a.eval o).run P w = .ok (.value v) w
theorem evS_pure {P : Program} {ng : Con} {e : Lk} {o : Oper} {x : V} (hs : scalarOp o.op = true) (h : evS P ng e o = some x) : APure P ng o e x := by
  intro g a hg k
  subst hg
  unfold evS at h
  cases hb : o.op.operands.toList.all (plainO g.ng e) with
  | false => rw [hb] at h; cases h
  | true =>
    rw [hb] at h
    simp only [cond] at h
    have hall := List.all_eq_true.1 hb
    have hρ : ∀ y ∈ o.op.operands.toList, a.eval y = ρE g.ng e y := by
      intro y hy
      have hp := hall y hy
      unfold plainO at hp
      unfold ρE
      cases h1 : evO g.ng e y with
      | none => rw [h1] at hp; cases hp
      | some z =>
        rw [h1] at hp
        simp only at hp ⊢
        cases h2 : z.val with
        | none => rw [h2] at hp; cases hp
        | some v => exact val_rel h2 (evO_rel h1 k)
    rw [execOp_congr hs hρ]
    split at h
    · rename_i v hv
      exact ⟨v, constV_rel g h, fun w => pureRun_run hv w⟩
    · cases h

end Go.Proofs.YtncoklpecffokaaGreatDoor.Cc
