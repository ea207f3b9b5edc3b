/-
  The evaluator of closed calls, part 3: the operations that ask nothing of memory come to what 'evP' says.
-/
import Derived.Test.YtojblnldfdeefaaGreatDoorE1
namespace Go.Proofs.YtojblnldfdeefaaGreatDoor.Cc
open Go Go.RowKit

structure RelE (g : G) (e : Lk) (a : Act) : Prop where
  at_ : ∀ t x, e t = some x → ∃ v, a.tmps[t]? = some v ∧ RelV g x v
theorem RelE.mono {g g' : G} (h : g.le g') {e : Lk} {a : Act} (k : RelE g e a) : RelE g' e a := ⟨fun t x hx => let ⟨v, hv, hr⟩ := k.at_ t x hx; ⟨v, hv, hr.mono h⟩⟩
theorem RelE.only {g : G} {e : Lk} {a : Act} (l : List Nat) (k : RelE g e a) : RelE g (Lk.only l e) a := ⟨fun t x hx => by
  unfold Lk.only at hx
  cases hc : l.contains t with
  | true => rw [hc] at hx; exact k.at_ t x hx
  | false => rw [hc] at hx; cases hx⟩

structure TIok (P : Program) (ti : TI) : Prop where
  und : ∀ T i, ti T = some i → P.underlying T = some i.und
  agg : ∀ T i, ti T = some i → i.agg = aggDesc i.und
  info : ∀ T i, ti T = some i → ∃ f, P.info? T = some f ∧ f.size = i.size ∧ f.bytes = i.bytes ∧ ∃ z, f.zero = some z ∧ ∀ g, RelV g i.zero z

section
variable {P : Program} {ti : TI} (ok : TIok P ti)
include ok
theorem TIok.run_underlying {T : TypeId} {i : TyI} (h : ti T = some i) (w : World) : (underlying T).run P w = .ok i.und w := by
  simp [underlying, ok.und T i h]
theorem TIok.run_typeInfo {T : TypeId} {i : TyI} (h : ti T = some i) : ∃ f, (∀ w, (typeInfo T).run P w = .ok f w) ∧ f.size = i.size ∧ f.bytes = i.bytes ∧ ∃ z, f.zero = some z ∧ ∀ g, RelV g i.zero z := by
  obtain ⟨f, h1, h2⟩ := ok.info T i h
  exact ⟨f, fun w => by simp [typeInfo, h1], h2⟩
theorem TIok.run_sizeOf {T : TypeId} {i : TyI} (h : ti T = some i) (w : World) : (sizeOf T).run P w = .ok i.size w := by
  obtain ⟨f, h1, h2, _⟩ := ok.run_typeInfo h
  simp [sizeOf, h1, h2]
theorem TIok.run_zeroValue {T : TypeId} {i : TyI} (h : ti T = some i) : ∃ z, (∀ g, RelV g i.zero z) ∧ ∀ w, (zeroValue T).run P w = .ok z w := by
  obtain ⟨f, h1, _, _, z, h4, h5⟩ := ok.info T i h
  exact ⟨z, h5, fun w => by simp [zeroValue, typeInfo, h1, h4]⟩
theorem TIok.run_isAgg {T : TypeId} {i : TyI} (h : ti T = some i) (w : World) : (isAgg T).run P w = .ok i.agg w := by
  rw [ok.agg T i h]
  unfold isAgg
  rw [Sem.run_bind, ok.run_underlying h, Result.andThen_ok]
  cases i.und <;> rfl
end

/-! ### constants, operands -/
theorem const1_rel (g : G) {v : Value} {x : V} (h : const1 v = some x) : RelV g x v := by
  unfold const1 at h
  split at h
  · cases h; exact .bool _
  · cases h; exact .int _ _
  · rename_i s
    cases hb : Nat.ble s.data.toList.length maxLen with
    | false => rw [hb] at h; cases h
    | true => rw [hb] at h; cases h; exact .str _ (Nat.le_of_ble_eq_true hb)
  · cases h; exact .nilp
  · cases h; exact .nilS
  · cases h; exact .nilM
  · cases h; exact .nilF
  · cases h; exact .nilI
  · cases h
theorem constL_rel (g : G) : ∀ {vs : List Value} {xs : List V}, constL vs = some xs → xs.length = vs.length ∧ ∀ (i : Nat) x v, xs[i]? = some x → vs[i]? = some v → RelV g x v
  | [], xs, h => by cases h; exact ⟨rfl, fun i x v hx _ => by simp at hx⟩
  | v :: vs, xs, h => by
    unfold constL at h
    cases h1 : const1 v with
    | none => rw [h1] at h; cases h
    | some x =>
      rw [h1] at h
      cases h2 : constL vs with
      | none => rw [h2] at h; cases h
      | some ys =>
        rw [h2] at h
        cases h
        obtain ⟨h3, h4⟩ := constL_rel g h2
        refine ⟨by simp [h3], fun i y u hy hu => ?_⟩
        cases i with
        | zero => simp at hy hu; subst hy; subst hu; exact const1_rel g h1
        | succ i => simp at hy hu; exact h4 i y u hy hu
theorem constV_rel (g : G) {v : Value} {x : V} (h : constV v = some x) : RelV g x v := by
  unfold constV at h
  split at h
  · rename_i vs
    cases h1 : constL vs.toList with
    | none => rw [h1] at h; cases h
    | some xs =>
      rw [h1] at h; cases h
      obtain ⟨h2, h3⟩ := constL_rel g h1
      exact .agg xs vs (by simpa using h2) fun i c u hc hu => h3 i c u hc (by simpa using hu)
  · rename_i t v
    cases h1 : const1 v with
    | none => rw [h1] at h; cases h
    | some x => rw [h1] at h; cases h; exact .iface t x v (const1_rel g h1)
  · exact const1_rel g h
theorem evO_rel {g : G} {e : Lk} {a : Act} {o : Operand} {x : V} (h : evO g.ng e o = some x) (k : RelE g e a) : RelV g x (a.eval o) := by
  cases o with
  | tmp t =>
    obtain ⟨v, hv, hr⟩ := k.at_ t x h
    show RelV g x (a.tmps.getD t Go.undef)
    simpa [hv] using hr
  | const v => exact constV_rel g h
  | func f => cases h; exact .func f [] #[] rfl (fun i c v hc _ => by simp at hc)
  | global b =>
    simp only [evO] at h
    cases hb : Nat.blt b g.ng.n with
    | false => rw [hb] at h; cases h
    | true =>
      rw [hb] at h; cases h
      have hlt : b < g.ng.n := by simpa [Nat.blt_eq] using hb
      obtain ⟨h1, h2⟩ := g.gl b hlt
      have := RelV.ptr (g := g) b 0 h1
      rw [h2] at this
      exact this
theorem evO_at {g : G} {e : Lk} {a : Act} {o : Operand} {x : V} (h : evO g.ng e o = some x) (k : RelE g e a) : ∃ v, a.eval o = v ∧ RelV g x v := ⟨_, rfl, evO_rel h k⟩
theorem evL_rel {g : G} {e : Lk} {a : Act} (k : RelE g e a) : ∀ {os : List Operand} {xs : List V}, evL g.ng e os = some xs → xs.length = os.length ∧ ∀ (i : Nat) x v, xs[i]? = some x → (os.map a.eval)[i]? = some v → RelV g x v
  | [], xs, h => by cases h; exact ⟨rfl, fun i x v hx _ => by simp at hx⟩
  | o :: os, xs, h => by
    unfold evL at h
    cases h1 : evO g.ng e o with
    | none => rw [h1] at h; cases h
    | some x =>
      rw [h1] at h
      cases h2 : evL g.ng e os with
      | none => rw [h2] at h; cases h
      | some ys =>
        rw [h2] at h
        cases h
        obtain ⟨h3, h4⟩ := evL_rel k h2
        refine ⟨by simp [h3], fun i y u hy hu => ?_⟩
        cases i with
        | zero => simp at hy hu; subst hy; subst hu; exact evO_rel h1 k
        | succ i => simp only [List.getElem?_cons_succ, List.map_cons] at hy hu; exact h4 i y u hy hu

theorem mkTy_ok (P : Program) : TIok P (mkTy P) := by
  have key : ∀ T i, mkTy P T = some i → ∃ u f z x, P.underlying T = some u ∧ P.info? T = some f ∧ f.zero = some z ∧ constV z = some x ∧ i = ⟨u, f.size, f.bytes, aggDesc u, x⟩ := by
    intro T i h
    unfold mkTy at h
    split at h
    · rename_i u f hu hf
      cases hz : f.zero with
      | none => rw [hz] at h; cases h
      | some z =>
        rw [hz] at h
        simp only at h
        cases hx : constV z with
        | none => rw [hx] at h; cases h
        | some x => rw [hx] at h; cases h; exact ⟨u, f, z, x, hu, hf, hz, hx, rfl⟩
    · cases h
  refine ⟨fun T i h => ?_, fun T i h => ?_, fun T i h => ?_⟩
  · obtain ⟨u, f, z, x, h1, h2, h3, h4, rfl⟩ := key T i h; exact h1
  · obtain ⟨u, f, z, x, h1, h2, h3, h4, rfl⟩ := key T i h; rfl
  · obtain ⟨u, f, z, x, h1, h2, h3, h4, rfl⟩ := key T i h; exact ⟨f, h2, rfl, rfl, z, h3, fun g => constV_rel g h4⟩

/-! ### plain data: as the model itself runs -/
theorem pureRun_run {P : Program} {α : Type} {s : Sem α} {x : α} (h : pureRun P s = some x) (w : World) : s.run P w = .ok x w := by
  induction s with
  | pure a => simp [pureRun] at h; subst h; rfl
  | program k ih => exact ih P h
  | mark m k ih => exact ih h
  | _ => cases h
theorem val1_rel {g : G} {x : V} {v u : Value} (h : x.val1 = some v) (k : RelV g x u) : u = v := by
  cases k <;> simp [V.val1] at h <;> exact h
theorem valL_rel {g : G} : ∀ {xs : List V} {vs : List Value}, V.valL xs = some vs → ∀ {us : List Value}, xs.length = us.length → (∀ (i : Nat) x u, xs[i]? = some x → us[i]? = some u → RelV g x u) → us = vs
  | [], vs, h, us, hl, _ => by cases h; cases us with | nil => rfl | cons => simp at hl
  | x :: xs, vs, h, us, hl, hr => by
    unfold V.valL at h
    cases h1 : V.val1 x with
    | none => rw [h1] at h; cases h
    | some v =>
      rw [h1] at h
      cases h2 : V.valL xs with
      | none => rw [h2] at h; cases h
      | some ws =>
        rw [h2] at h
        cases h
        cases us with
        | nil => simp at hl
        | cons u us =>
          have e1 := val1_rel h1 (hr 0 x u rfl rfl)
          have e2 := valL_rel h2 (us := us) (by simpa using hl) (fun i y z hy hz => hr (i + 1) y z (by simpa using hy) (by simpa using hz))
          rw [e1, e2]
theorem val_rel {g : G} {x : V} {v u : Value} (h : x.val = some v) (k : RelV g x u) : u = v := by
  have k' := k
  cases k with
  | agg cs vs hn hr =>
    simp only [V.val] at h
    cases h1 : V.valL cs with
    | none => rw [h1] at h; cases h
    | some ws =>
      rw [h1] at h; cases h
      have := valL_rel (g := g) h1 (us := vs.toList) (by simpa using hn) (fun i c z hc hz => hr i c z hc (by simpa using hz))
      rw [← this]
  | iface t y z hz =>
    simp only [V.val] at h
    cases h1 : V.val1 y with
    | none => rw [h1] at h; cases h
    | some ws => rw [h1] at h; cases h; rw [val1_rel h1 hz]
  | _ => exact val1_rel (g := g) (by simpa only [V.val] using h) k'

def scalarOp : Op → Bool
  | .binOp _ _ _ _ _ | .unOp _ _ _ | .convert _ _ _ | .index _ _ _ | .slice _ _ _ _ none => true
  | .call { callee := .builtin _, .. } => true
  | _ => false
theorem execOp_congr {ρ ρ' : Operand → Value} {o : Oper} (hs : scalarOp o.op = true) (h : ∀ x ∈ o.op.operands.toList, ρ x = ρ' x) : execOp ρ o = execOp ρ' o := by
  obtain ⟨dst, op, ty, pos, af, gd⟩ := o
  cases op with
  | binOp op T x y T' =>
    have h1 := h x (by simp [Op.operands]); have h2 := h y (by simp [Op.operands])
    simp only [execOp, h1, h2]
  | unOp op T x =>
    have h1 := h x (by simp [Op.operands])
    simp only [execOp, h1]
  | convert S T x =>
    have h1 := h x (by simp [Op.operands])
    simp only [execOp, h1]
  | index T x y =>
    have h1 := h x (by simp [Op.operands]); have h2 := h y (by simp [Op.operands])
    simp only [execOp, h1, h2]
  | slice T x lo hi mx =>
    cases mx with
    | some m => simp [scalarOp] at hs
    | none =>
      have h1 := h x (by simp [Op.operands])
      have h2 : lo.map ρ = lo.map ρ' := by
        cases lo with
        | none => rfl
        | some l => have := h l (by simp [Op.operands]); simp [this]
      have h3 : hi.map ρ = hi.map ρ' := by
        cases hi with
        | none => rfl
        | some l => have := h l (by simp [Op.operands]); simp [this]
      simp only [execOp, h1, h2, h3, Option.map_none]
  | call c =>
    obtain ⟨cal, as, ts⟩ := c
    cases cal with
    | builtin b =>
      have h1 : as.map ρ = as.map ρ' := Array.map_congr_left fun x hx => h x (by simpa [Op.operands, Call.operands] using hx)
      simp only [execOp, resolve, h1]
    | _ => simp [scalarOp] at hs
  | _ => simp [scalarOp] at hs

def APure (P : Program) (ng : Con) (o : Oper) (e : Lk) (x : V) : Prop :=
  ∀ g a, g.ng = ng → RelE g e a → ∃ v, RelV g x v ∧ ∀ w, (execOp a.eval o).run P w = .ok (.value v) w
theorem evS_pure {P : Program} {ng : Con} {e : Lk} {o : Oper} {x : V} (hs : scalarOp o.op = true) (h : evS P ng e o = some x) : APure P ng o e x := by
  intro g a hg k
  subst hg
  unfold evS at h
  cases hb : o.op.operands.toList.all (plainO g.ng e) with
  | false => rw [hb] at h; cases h
  | true =>
    rw [hb] at h
    simp only [cond] at h
    have hall := List.all_eq_true.1 hb
    have hρ : ∀ y ∈ o.op.operands.toList, a.eval y = ρE g.ng e y := by
      intro y hy
      have hp := hall y hy
      unfold plainO at hp
      unfold ρE
      cases h1 : evO g.ng e y with
      | none => rw [h1] at hp; cases hp
      | some z =>
        rw [h1] at hp
        simp only at hp ⊢
        cases h2 : z.val with
        | none => rw [h2] at hp; cases hp
        | some v => exact val_rel h2 (evO_rel h1 k)
    rw [execOp_congr hs hρ]
    split at h
    · rename_i v hv
      exact ⟨v, constV_rel g h, fun w => pureRun_run hv w⟩
    · cases h

end Go.Proofs.YtojblnldfdeefaaGreatDoor.Cc

namespace Go.Proofs.YtojblnldfdeefaaGreatDoor.Cc
open Go Go.RowKit

theorem Addr.add_off (b o n : Nat) : (⟨b, o, none⟩ : Addr).add n = ⟨b, o + n, none⟩ := by
  unfold Addr.add; split
  · rename_i h; subst h; rfl
  · rfl

section
variable {P : Program} {ti : TI} {ng : Con} {e : Lk} {dst : Option Tmp} {ty : TypeId} {pos : String} {af : Array Edge} {gd : Option (Nat × Bool)}

theorem p_val {o : Oper} {x : Operand} {y : V} (h : evO ng e x = some y) (hr : ∀ (a : Act) w, (execOp a.eval o).run P w = .ok (.value (a.eval x)) w) : APure P ng o e y := by
  intro g a hg k
  subst hg
  exact ⟨_, evO_rel h k, fun w => hr a w⟩
theorem p_pick {c x y : Operand} {t : Bool} {z : V} (hc : evO ng e c = some (.bool t)) (hx : evO ng e (if t then x else y) = some z) : APure P ng ⟨dst, .pick c x y, ty, pos, af, gd⟩ e z := by
  intro g a hg k
  subst hg
  obtain ⟨v, he, hv⟩ := evO_at hc k
  cases hv
  refine ⟨_, evO_rel hx k, fun w => ?_⟩
  cases t <;> simp [execOp, he, asBool]
theorem p_nilCheck {x : Operand} {y : V} (h : evO ng e x = some y) (hy : (∃ n o, y = .ptr n o) ∨ (∃ f cs, y = .func f cs) ∨ ∃ t v, y = .iface t v) : APure P ng ⟨dst, .nilCheck x, ty, pos, af, gd⟩ e y := by
  intro g a hg k
  subst hg
  obtain ⟨v, he, hv⟩ := evO_at h k
  refine ⟨v, hv, fun w => ?_⟩
  rcases hy with ⟨n, o, rfl⟩ | ⟨f, cs, rfl⟩ | ⟨t, u, rfl⟩ <;> cases hv <;> simp [execOp, he]

/-! whole numbers -/
theorem evI_run {op : BinOp} {T : TypeId} {k : IntKind} {m q : Int} {r : V} (h : evI op k m q = some r) (g : G) : ∃ v, RelV g r v ∧ ∀ w, (binOp op T (.int k m) (.int k q)).run P w = .ok v w := by
  cases op <;> simp only [evI, Option.some.injEq, reduceCtorEq] at h <;> subst h
  · exact ⟨_, .int _ _, fun w => by simp [binOp, Op.intArith]⟩
  · exact ⟨_, .int _ _, fun w => by simp [binOp, Op.intArith]⟩
  · exact ⟨_, .int _ _, fun w => by simp [binOp, Op.intArith]⟩
  all_goals exact ⟨_, .bool _, fun w => by
    have e : (m == q) = decide (m = q) := by by_cases h : m = q <;> simp [h]
    simp [binOp, Op.intCmp, bne, e]⟩
theorem guard_int {op : BinOp} {T : TypeId} {x y : Operand} {k k' : IntKind} {m q : Int} (w : World) : (eqGuard op T x y (.int k m) (.int k' q)).run P w = .ok () w := by cases op <;> rfl
theorem p_int {op : BinOp} {T T' : TypeId} {x y : Operand} {k k' : IntKind} {m q : Int} {r : V} (hx : evO ng e x = some (.int k m)) (hy : evO ng e y = some (.int k' q))
    (h : ∀ g, ∃ v, RelV g r v ∧ ∀ w, (binOp op T (.int k m) (.int k' q)).run P w = .ok v w) : APure P ng ⟨dst, .binOp op T x y T', ty, pos, af, gd⟩ e r := by
  intro g a hg ka
  subst hg
  obtain ⟨v, he, hv⟩ := evO_at hx ka
  obtain ⟨u, hf, hu⟩ := evO_at hy ka
  cases hv; cases hu
  obtain ⟨r, h1, h2⟩ := h g
  refine ⟨r, h1, fun w => ?_⟩
  simp only [execOp, he, hf]
  simp [guard_int, h2]
theorem equal_nil {g : G} {x y : Operand} {vx vy : V} {v u : Value} {b : Bool} {T : TypeId} {d : TypeDesc} (hv : RelV g vx v) (hu : RelV g vy u) (h : nilCmp d x y vx vy = some b) (hT : ∀ w, (underlying T).run P w = .ok d w) (w : World) :
    (Op.equal T v u).run P w = .ok b w := by
  unfold Op.equal Op.maxDepth Op.equalIn
  rw [Sem.run_bind, hT, Result.andThen_ok]
  unfold nilCmp at h
  split at h <;> first | (exfalso; cases h; done) | (cases hv <;> cases hu <;> first | (cases h; simp; done) | (cases hc : (isC x || isC y) <;> rw [hc] at h <;> cases h; simp; done))
theorem guard_nil {g : G} {op : BinOp} {x y : Operand} {vx vy : V} {v u : Value} {b : Bool} {T : TypeId} {d : TypeDesc} (hv : RelV g vx v) (hu : RelV g vy u) (h : nilCmp d x y vx vy = some b) (w : World) :
    (eqGuard op T x y v u).run P w = .ok () w := by
  have key : (isC x || isC y) = true → (eqGuard op T x y .nilIface .nilIface).run P w = .ok () w := by
    intro hc
    have hc : isC x = true ∨ isC y = true := by simpa using hc
    cases op <;> first
      | rfl
      | (unfold eqGuard
         rcases hc with hc | hc
         · cases x <;> simp [isC] at hc
           simp
         · cases y <;> simp [isC] at hc
           simp)
  unfold nilCmp at h
  split at h <;> first | (exfalso; cases h; done) | (cases hv <;> cases hu <;> first
    | (cases op <;> rfl)
    | (cases hc : (isC x || isC y) with
       | true => exact key hc
       | false => rw [hc] at h; cases h))
theorem p_nil {op : BinOp} {T T' : TypeId} {d : TypeDesc} {x y : Operand} {vx vy : V} {b : Bool} {r : V} (hT : ∀ w, (underlying T).run P w = .ok d w) (hx : evO ng e x = some vx) (hy : evO ng e y = some vy) (h : nilCmp d x y vx vy = some b)
    (hr : (op = .eql ∧ r = .bool b) ∨ (op = .neq ∧ r = .bool !b)) : APure P ng ⟨dst, .binOp op T x y T', ty, pos, af, gd⟩ e r := by
  intro g a hg ka
  subst hg
  obtain ⟨v, he, hv⟩ := evO_at hx ka
  obtain ⟨u, hf, hu⟩ := evO_at hy ka
  have hrun := equal_nil (P := P) hv hu h hT
  have hg := guard_nil (P := P) (op := op) (T := T) hv hu h
  have e1 : binOp .eql T v u = (do pure (.bool (← Op.equal T v u)) : Sem Value) := by
    unfold nilCmp at h; split at h <;> first | (exfalso; cases h; done) | (cases hv <;> cases hu <;> rfl)
  have e2 : binOp .neq T v u = (do pure (.bool (!(← Op.equal T v u))) : Sem Value) := by
    unfold nilCmp at h; split at h <;> first | (exfalso; cases h; done) | (cases hv <;> cases hu <;> rfl)
  rcases hr with ⟨rfl, rfl⟩ | ⟨rfl, rfl⟩
  · exact ⟨_, .bool b, fun w => by simp [execOp, he, hf, hg, e1, hrun]⟩
  · exact ⟨_, .bool _, fun w => by simp [execOp, he, hf, hg, e2, hrun]⟩
end

end Go.Proofs.YtojblnldfdeefaaGreatDoor.Cc

namespace Go.Proofs.YtojblnldfdeefaaGreatDoor.Cc
open Go Go.RowKit

theorem cond_some {α : Type} {b : Bool} {x y : α} (h : cond b (some x) none = some y) : b = true ∧ x = y := by
  cases b with
  | false => cases h
  | true => exact ⟨rfl, Option.some.inj h⟩

section
variable {P : Program} {ti : TI} (ok : TIok P ti) {ng : Con} {e : Lk} {dst : Option Tmp} {ty : TypeId} {pos : String} {af : Array Edge} {gd : Option (Nat × Bool)}
include ok

theorem run_part {g : G} {T : TypeId} {i : TyI} {cs : List V} {vs : Array Value} {off : Nat} {x : V} (hT : ti T = some i) (hr : RelCells g cs vs) (h : partV i cs off = some x) :
    ∃ v, RelV g x v ∧ ∀ w, (part T vs off).run P w = .ok v w := by
  unfold partV at h
  cases ha : i.agg with
  | true =>
    rw [ha] at h
    obtain ⟨hb, rfl⟩ := cond_some h
    have hb := Nat.le_of_ble_eq_true hb
    have hp := hr.piece hb
    exact ⟨.agg (vs.extract off (off + i.size)), .agg _ _ hp.1 hp.2, fun w => by simp [part, ok.run_isAgg hT, ha, ok.run_sizeOf hT]⟩
  | false =>
    rw [ha] at h
    obtain ⟨v, hv, hrel⟩ := hr.at h
    exact ⟨v, hrel, fun w => by simp [part, ok.run_isAgg hT, ha, hv]⟩

theorem p_makeInterface {T : TypeId} {i : TyI} {x : Operand} {v : V} (hT : ti T = some i) (hn : ∀ ms, i.und ≠ .interface ms) (hx : evO ng e x = some v) : APure P ng ⟨dst, .makeInterface T x, ty, pos, af, gd⟩ e (.iface T v) := by
  intro g a hg k
  subst hg
  refine ⟨.iface T (a.eval x), .iface T v _ (evO_rel hx k), fun w => ?_⟩
  simp only [execOp, Instr.makeInterface, Sem.run_bind, ok.run_underlying hT, Result.andThen_ok]
  cases hu : i.und <;> first | rfl | exact absurd hu (hn _)
omit ok in
theorem p_makeFunc {f : FuncId} {cap : Array Operand} {xs : List V} (hx : evL ng e cap.toList = some xs) : APure P ng ⟨dst, .makeFunc (.func f) #[] cap, ty, pos, af, gd⟩ e (.func f xs) := by
  intro g a hg k
  subst hg
  obtain ⟨h1, h2⟩ := evL_rel k hx
  exact ⟨_, .func f xs (cap.map a.eval) (by simpa using h1) (fun i c v hc hv => h2 i c v hc (by simpa using hv)), fun w => by simp [execOp, Instr.makeFunc]⟩
omit ok in
theorem p_makeMeth {f : FuncId} {fi : Array Operand} {xs : List V} (hx : evL ng e fi.toList = some xs) : APure P ng ⟨dst, .makeFunc (.func f) fi #[], ty, pos, af, gd⟩ e (.meth f xs) := by
  intro g a hg k
  subst hg
  obtain ⟨h1, h2⟩ := evL_rel k hx
  exact ⟨_, .meth f xs (fi.map a.eval) (by simpa using h1) (fun i c v hc hv => h2 i c v hc (by simpa using hv)), fun w => by simp [execOp, Instr.makeFunc]⟩
theorem p_fieldAddr {S : TypeId} {i j : TyI} {fs : Array Field} {f : Nat} {fd : Field} {x : Operand} {n o : Nat} (hT : ti S = some i) (hu : i.und = .struct fs) (hf : fs.toList[f]? = some fd) (hj : ti fd.type = some j) (hs : j.size ≠ 0)
    (hx : evO ng e x = some (.ptr n o)) : APure P ng ⟨dst, .fieldAddr S x f, ty, pos, af, gd⟩ e (.ptr n (o + fd.offset)) := by
  intro g a hg k
  subst hg
  obtain ⟨v, he, hv⟩ := evO_at hx k
  cases hv with
  | ptr n o hn =>
    refine ⟨_, .ptr n (o + fd.offset) hn, fun w => ?_⟩
    have hf' : fs[f]? = some fd := by simpa using hf
    have hu' := ok.run_underlying hT w
    rw [hu] at hu'
    obtain ⟨sz, hsz⟩ : ∃ m, j.size = m + 1 := ⟨j.size - 1, by omega⟩
    have hs' : ∀ w, (sizeOf fd.type).run P w = .ok (sz + 1) w := fun w => by rw [← hsz]; exact ok.run_sizeOf hj w
    simp [execOp, he, Instr.fieldAt, hu', hf', Instr.sureAddr, fieldPlace, hs', Addr.add_off]
theorem p_field {S : TypeId} {i j : TyI} {fs : Array Field} {f : Nat} {fd : Field} {x : Operand} {cs : List V} {y : V} (hT : ti S = some i) (hu : i.und = .struct fs) (hf : fs.toList[f]? = some fd) (hj : ti fd.type = some j)
    (hx : evO ng e x = some (.agg cs)) (hy : partV j cs fd.offset = some y) : APure P ng ⟨dst, .field S x f, ty, pos, af, gd⟩ e y := by
  intro g a hg k
  subst hg
  obtain ⟨v, he, hv⟩ := evO_at hx k
  cases hv with
  | agg cs vs hn hr =>
    obtain ⟨u, hu1, hu2⟩ := run_part ok hj ⟨hn, hr⟩ hy
    refine ⟨u, hu1, fun w => ?_⟩
    have hf' : fs[f]? = some fd := by simpa using hf
    have hu' := ok.run_underlying hT w
    rw [hu] at hu'
    simp [execOp, he, Instr.field, hu', hf', asAgg, hu2]
theorem p_indexS {T E : TypeId} {i j : TyI} {x ix : Operand} {sz n o len m : Nat} {k : IntKind} (hT : ti T = some i) (hu : i.und = .slice E) (hj : ti E = some j) (hx : evO ng e x = some (.sl sz n o len)) (hi : evO ng e ix = some (.int k (.ofNat m))) (hm : m < len) :
    APure P ng ⟨dst, .indexAddr T x ix, ty, pos, af, gd⟩ e (.ptr n (o + m * j.size)) := by
  intro g a hg ka
  subst hg
  obtain ⟨v, he, hv⟩ := evO_at hx ka
  obtain ⟨u, hf, hu'⟩ := evO_at hi ka
  cases hu'
  cases hv with
  | sl sz n o len cap hn _ _ _ =>
    refine ⟨_, .ptr n (o + m * j.size) hn, fun w => ?_⟩
    have h1 := ok.run_underlying hT
    rw [hu] at h1
    have h2 : (Int.ofNat m : Int) < (len : Int) := Int.ofNat_lt.2 hm
    have h3 : (0 : Int) ≤ Int.ofNat m := Int.natCast_nonneg m
    simp [execOp, he, hf, Instr.indexAt, asIntOf, h1, ok.run_sizeOf hj, Addr.add_off]
    try (intro hh; omega)
theorem p_indexA {T E : TypeId} {i j : TyI} {x ix : Operand} {N n o m : Nat} {k : IntKind} (hT : ti T = some i) (hu : i.und = .array N E) (hj : ti E = some j) (hx : evO ng e x = some (.ptr n o)) (hi : evO ng e ix = some (.int k (.ofNat m))) (hm : m < N) :
    APure P ng ⟨dst, .indexAddr T x ix, ty, pos, af, gd⟩ e (.ptr n (o + m * j.size)) := by
  intro g a hg ka
  subst hg
  obtain ⟨v, he, hv⟩ := evO_at hx ka
  obtain ⟨u, hf, hu'⟩ := evO_at hi ka
  cases hu'
  cases hv with
  | ptr n o hn =>
    refine ⟨_, .ptr n (o + m * j.size) hn, fun w => ?_⟩
    have h1 := ok.run_underlying hT
    rw [hu] at h1
    have h2 : (Int.ofNat m : Int) < (N : Int) := Int.ofNat_lt.2 hm
    have h3 : (0 : Int) ≤ Int.ofNat m := Int.natCast_nonneg m
    simp [execOp, he, hf, Instr.indexAt, Instr.sureAddr, asIntOf, h1, ok.run_sizeOf hj, Addr.add_off]
    try (intro hh; omega)
theorem p_indexV {T E : TypeId} {i j : TyI} {x ix : Operand} {N m : Nat} {k : IntKind} {cs : List V} {y : V} (hT : ti T = some i) (hu : i.und = .array N E) (hj : ti E = some j) (hx : evO ng e x = some (.agg cs)) (hi : evO ng e ix = some (.int k (.ofNat m))) (hm : m < N)
    (hy : partV j cs (m * j.size) = some y) : APure P ng ⟨dst, .index T x ix, ty, pos, af, gd⟩ e y := by
  intro g a hg ka
  subst hg
  obtain ⟨v, he, hv⟩ := evO_at hx ka
  obtain ⟨u, hf, hu'⟩ := evO_at hi ka
  cases hu'
  cases hv with
  | agg cs vs hn hr =>
    obtain ⟨z, hz1, hz2⟩ := run_part ok hj ⟨hn, hr⟩ hy
    refine ⟨z, hz1, fun w => ?_⟩
    have h1 := ok.run_underlying hT
    rw [hu] at h1
    have h2 : (Int.ofNat m : Int) < (N : Int) := Int.ofNat_lt.2 hm
    have h3 : (0 : Int) ≤ Int.ofNat m := Int.natCast_nonneg m
    simp [execOp, he, hf, Instr.index, asIntOf, h1, ok.run_sizeOf hj]
    simp at h2 h3
    simp [h2, hz2]
omit ok in
theorem p_extract {x : Operand} {cs : List V} {i : Nat} {y : V} (hx : evO ng e x = some (.tuple cs)) (hy : cs[i]? = some y) : APure P ng ⟨dst, .extract x i, ty, pos, af, gd⟩ e y := by
  intro g a hg k
  subst hg
  obtain ⟨v, he, hv⟩ := evO_at hx k
  cases hv with
  | tuple cs us hn hr =>
    obtain ⟨u, hu, hrel⟩ := RelCells.at ⟨hn, hr⟩ hy
    exact ⟨u, hrel, fun w => by simp [execOp, he, Instr.extract, hu]⟩
omit ok in
theorem rel2 {g : G} {x : V} {v : Value} (h : RelV g x v) (b : Bool) : RelV g (.tuple [x, .bool b]) (.tuple #[v, .bool b]) :=
  .tuple _ _ rfl fun i c u hc hu => by
    match i with
    | 0 => simp at hc hu; subst hc; subst hu; exact h
    | 1 => simp at hc hu; subst hc; subst hu; exact .bool b
    | i + 2 => simp at hc
theorem p_assert {x : Operand} {X A : TypeId} {i : TyI} {okf : Bool} {vx r : V} (hA : ti A = some i) (hn : ∀ ms, i.und ≠ .interface ms) (hx : evO ng e x = some vx)
    (h : (∃ t v, vx = .iface t v ∧ ((Nat.beq t A = true ∧ r = cond okf (.tuple [v, .bool true]) v) ∨ (Nat.beq t A = false ∧ okf = true ∧ r = .tuple [i.zero, .bool false]))) ∨ (vx = .nilI ∧ okf = true ∧ r = .tuple [i.zero, .bool false])) :
    APure P ng ⟨dst, .typeAssert x X A okf, ty, pos, af, gd⟩ e r := by
  intro g a hg k
  subst hg
  obtain ⟨u, he, hu⟩ := evO_at hx k
  obtain ⟨z, hz1, hz2⟩ := ok.run_zeroValue hA
  have h1 := ok.run_underlying hA
  rcases h with ⟨t, v, rfl, h⟩ | ⟨rfl, rfl, rfl⟩
  · cases hu with
    | iface t v u hv =>
      rcases h with ⟨ht, rfl⟩ | ⟨ht, rfl, rfl⟩
      · have ht := Nat.eq_of_beq_eq_true ht
        refine ⟨if okf then .tuple #[u, .bool true] else u, ?_, fun w => ?_⟩
        · cases okf
          · exact hv
          · exact rel2 hv true
        · simp only [execOp, he, Instr.typeAssert, Sem.run_bind, h1, Result.andThen_ok]
          cases hd : i.und <;> first | (exact absurd hd (hn _)) | (simp [ht])
      · have ht : t ≠ A := fun e => by subst e; rw [Nat.beq_refl] at ht; cases ht
        refine ⟨_, rel2 (hz1 g) false, fun w => ?_⟩
        simp only [execOp, he, Instr.typeAssert, Sem.run_bind, h1, Result.andThen_ok]
        cases hd : i.und <;> first | (exact absurd hd (hn _)) | (simp [ht, hz2])
  · cases hu
    refine ⟨_, rel2 (hz1 g) false, fun w => ?_⟩
    simp only [execOp, he, Instr.typeAssert, Sem.run_bind, h1, Result.andThen_ok]
    cases hd : i.und <;> first | (exact absurd hd (hn _)) | (simp [hz2])

omit ok in
theorem execCall_builtin (ρ : Operand → Value) (b : Builtin) (args : Array Operand) (ats : Array TypeId) :
    execOp ρ ⟨dst, .call { callee := .builtin b, args := args, argTypes := ats }, ty, pos, af, gd⟩ = builtin b ats ty (args.map fun | .const _ => true | _ => false) (args.map ρ) := by
  simp [execOp, resolve, invoke]
  rfl
theorem p_len {T : TypeId} {i : TyI} {x : Operand} {ts : Array TypeId} {vx : V} {m : Nat} (hT : ti T = some i) (ht : ts[0]? = some T) (hx : evO ng e x = some vx)
    (h : (∃ E, i.und = .slice E ∧ ((∃ sz n o, vx = .sl sz n o m) ∨ ((vx = .nilS ∨ vx = .voidS ∨ vx = .viewS) ∧ m = 0))) ∨ (i.und = .string ∧ ∃ s, vx = .str s ∧ m = s.length) ∨ (∃ E, i.und = .array m E) ∨
      (∃ A j E, i.und = .pointer A ∧ ti A = some j ∧ j.und = .array m E)) : APure P ng ⟨dst, .call { callee := .builtin .len, args := #[x], argTypes := ts }, ty, pos, af, gd⟩ e (.int .i64 m) := by
  intro g a hg k
  subst hg
  obtain ⟨v, he, hv⟩ := evO_at hx k
  refine ⟨_, .int .i64 m, fun w => ?_⟩
  have h1 := ok.run_underlying hT
  simp only [execCall_builtin, builtin, Builtin.len_]
  rcases h with ⟨E, hu, h⟩ | ⟨hu, s, rfl, rfl⟩ | ⟨E, hu⟩ | ⟨A, j, E, hu, hj, hu2⟩
  · rw [hu] at h1
    rcases h with ⟨sz, n, o, rfl⟩ | ⟨rfl | rfl | rfl, rfl⟩ <;> cases hv <;> simp [ht, he, h1, goInt]
  · rw [hu] at h1
    cases hv
    have hs : (ByteArray.mk s.toArray).size = s.length := by unfold ByteArray.size; simp
    simp [ht, he, h1, goInt, hs]
  · rw [hu] at h1
    simp [ht, he, h1, goInt]
  · rw [hu] at h1
    have h2 := ok.run_underlying hj
    rw [hu2] at h2
    simp [ht, he, h1, h2, goInt]

/-! slices -/
omit ok in
theorem bound_spec {g : G} {a : Act} (k : RelE g e a) {d m : Nat} {o : Option Operand} (h : boundV g.ng e d o = some m) : (o = none ∧ m = d) ∨ ∃ q kk, o = some q ∧ a.eval q = .int kk (m : Int) := by
  cases o with
  | none => simp only [boundV, Option.some.injEq] at h; exact .inl ⟨rfl, h.symm⟩
  | some q =>
    simp only [boundV] at h
    split at h
    · rename_i kk n hq
      cases h
      obtain ⟨v, he, hv⟩ := evO_at hq k
      cases hv
      exact .inr ⟨q, kk, rfl, he⟩
    · cases h
omit ok in
theorem run_bound (v : Value) {k : IntKind} {m y : Nat} (hv : v = .int k (m : Int)) (hm : m ≤ y) (c : BoundsCode) (w : World) : (Instr.sliceBound v y c).run P w = .ok m w := by
  subst hv
  have h1 : (m : Int) ≤ (y : Int) := by omega
  simp [Instr.sliceBound, asIntOf, h1]
  try (intro hh; omega)
omit ok in
theorem run_bounds {g : G} {a : Act} (k : RelE g e a) {lo hi : Option Operand} {len cap l h : Nat} (hlo : boundV g.ng e 0 lo = some l) (hhi : boundV g.ng e len hi = some h) (hlh : l ≤ h) (hc : h ≤ cap) (b : Bool) (w : World) :
    (Instr.sliceBounds b len cap (lo.map a.eval) (hi.map a.eval) none).run P w = .ok (l, h, cap) w := by
  unfold Instr.sliceBounds
  rcases bound_spec k hlo with ⟨rfl, rfl⟩ | ⟨q, kk, rfl, hq⟩ <;> rcases bound_spec k hhi with ⟨rfl, rfl⟩ | ⟨q', kk', rfl, hq'⟩
  · simp
  · simp [run_bound (P := P) _ hq' hc]
  · simp [run_bound (P := P) _ hq hlh]
  · simp [run_bound (P := P) _ hq' hc, run_bound (P := P) _ hq hlh]
theorem p_slice {T E : TypeId} {i j : TyI} {x : Operand} {lo hi : Option Operand} {sz n o len l h : Nat} {r : V} (hT : ti T = some i) (hu : i.und = .slice E) (hj : ti E = some j) (hx : evO ng e x = some (.sl sz n o len))
    (hlo : boundV ng e 0 lo = some l) (hhi : boundV ng e len hi = some h) (hsz : j.size = sz) (hlh : l ≤ h) (hhl : h ≤ len) (hr : ((l = 0 ∨ l < len) ∧ r = .sl sz n (o + l * sz) (h - l)) ∨ (¬ (l = 0 ∨ l < len) ∧ r = .viewS)) :
    APure P ng ⟨dst, .slice T x lo hi none, ty, pos, af, gd⟩ e r := by
  intro g a hg k
  subst hg
  obtain ⟨v, he, hv⟩ := evO_at hx k
  cases hv with
  | sl sz n o len cap hn hvs hl hc =>
    have h1 := ok.run_underlying hT
    rw [hu] at h1
    have hb := fun w => run_bounds (P := P) k hlo hhi hlh (show h ≤ cap by omega) true w
    have hrun : ∀ w, (execOp a.eval ⟨dst, .slice T x lo hi none, ty, pos, af, gd⟩).run P w = .ok (.value (.slice (if cap = l then some ⟨g.nm n, o, none⟩ else some ⟨g.nm n, o + l * sz, none⟩) (h - l) (cap - l))) w := fun w => by
      simp [execOp, he, Instr.sliceAt, Instr.slice, h1, hb, ok.run_sizeOf hj, hsz, Addr.add_off]
    refine ⟨_, ?_, hrun⟩
    rcases hr with ⟨hl0, rfl⟩ | ⟨hl0, rfl⟩
    · by_cases hcl : cap = l
      · have : l = 0 := by rcases hl0 with h0 | h0 <;> omega
        subst this
        rw [if_pos hcl]
        have h0 : h = 0 := by omega
        subst h0
        have := RelV.sl (g := g) sz n o 0 cap hn hvs (by omega) hc
        simpa [hcl] using this
      · rw [if_neg hcl]
        refine .sl sz n (o + l * sz) (h - l) (cap - l) hn ?_ (by omega) (by omega)
        rw [← hvs]
        have : l * sz + (cap - l) * sz = cap * sz := by rw [← Nat.add_mul]; congr 1; omega
        omega
    · have : h - l = 0 := by omega
      rw [this]
      exact .viewS _ _ (by omega)
theorem p_slice0 {T E : TypeId} {i : TyI} {_j : Option TyI} {x : Operand} {lo hi : Option Operand} {r : V} (hT : ti T = some i) (hu : i.und = .slice E) (hE : ∃ j, ti E = some j) (hx : evO ng e x = some r) (hlo : boundV ng e 0 lo = some 0) (hhi : boundV ng e 0 hi = some 0)
    (hr : r = .nilS ∨ r = .voidS ∨ r = .viewS) : APure P ng ⟨dst, .slice T x lo hi none, ty, pos, af, gd⟩ e r := by
  intro g a hg k
  subst hg
  obtain ⟨v, he, hv⟩ := evO_at hx k
  obtain ⟨j, hj⟩ := hE
  have h1 := ok.run_underlying hT
  rw [hu] at h1
  rcases hr with rfl | rfl | rfl
  · cases hv
    have hb := fun w => run_bounds (P := P) (cap := 0) k hlo hhi (Nat.le_refl 0) (Nat.le_refl 0) true w
    exact ⟨_, .nilS, fun w => by simp [execOp, he, Instr.sliceAt, Instr.slice, h1, hb, ok.run_sizeOf hj]⟩
  · obtain ⟨b, rfl⟩ : ∃ b, v = .slice (some b) 0 0 := by cases hv; exact ⟨_, rfl⟩
    have hb := fun w => run_bounds (P := P) (cap := 0) k hlo hhi (Nat.le_refl 0) (Nat.le_refl 0) true w
    exact ⟨_, .voidS b, fun w => by simp [execOp, he, Instr.sliceAt, Instr.slice, h1, hb, ok.run_sizeOf hj]⟩
  · cases hv with
    | viewS p c hc =>
      have hb := fun w => run_bounds (P := P) (cap := c) k hlo hhi (Nat.le_refl 0) (Nat.zero_le c) true w
      refine ⟨_, .viewS (if c = 0 then p else p.map (·.add (0 * j.size))) c hc, fun w => ?_⟩
      simp [execOp, he, Instr.sliceAt, Instr.slice, h1, hb, ok.run_sizeOf hj]

/-! structs and arrays put together -/
omit ok in
theorem row_put_get (cur : List Value) (o : Nat) (vs : List Value) (h : o + vs.length ≤ cur.length) (i : Nat) : (cur.take o ++ vs ++ cur.drop (o + vs.length))[i]? = if o ≤ i ∧ i < o + vs.length then vs[i - o]? else cur[i]? := by
  rw [List.append_assoc, List.getElem?_append]
  simp only [List.length_take]
  rw [show min o cur.length = o by omega]
  split
  · rename_i h1; rw [if_neg (by omega), List.getElem?_take, if_pos h1]
  · rename_i h1
    rw [List.getElem?_append]
    split
    · rename_i h2; rw [if_pos (by omega)]
    · rename_i h2; rw [if_neg (by omega), List.getElem?_drop]; congr 1; omega
omit ok in
theorem putRow_get (cs : List V) (o : Nat) (ds : List V) (h : o + ds.length ≤ cs.length) (i : Nat) : (putRow cs o ds)[i]? = if o ≤ i ∧ i < o + ds.length then ds[i - o]? else cs[i]? := by
  unfold putRow
  rw [List.append_assoc, List.getElem?_append]
  simp only [List.length_take]
  rw [show min o cs.length = o by omega]
  split
  · rename_i h1; rw [if_neg (by omega), List.getElem?_take, if_pos h1]
  · rename_i h1
    rw [List.getElem?_append]
    split
    · rename_i h2; rw [if_pos (by omega)]
    · rename_i h2; rw [if_neg (by omega), List.getElem?_drop]; congr 1; omega
omit ok in
theorem putRow_len (cs : List V) (o : Nat) (ds : List V) (h : o + ds.length ≤ cs.length) : (putRow cs o ds).length = cs.length := by unfold putRow; simp; omega
omit ok in
theorem RelCells.putRow {g : G} {cs ds : List V} {vs us : Array Value} (h : RelCells g cs vs) (k : RelCells g ds us) {o : Nat} (ho : o + ds.length ≤ cs.length) :
    RelCells g (putRow cs o ds) (vs.toList.take o ++ us.toList ++ vs.toList.drop (o + us.toList.length)).toArray := by
  have e1 := h.1
  have e2 := k.1
  refine ⟨by rw [putRow_len _ _ _ ho]; simp; omega, fun i c v hc hv => ?_⟩
  have hv' : (vs.toList.take o ++ us.toList ++ vs.toList.drop (o + us.toList.length))[i]? = some v := by simpa using hv
  rw [row_put_get _ _ _ (by simp; omega)] at hv'
  rw [putRow_get _ _ _ ho] at hc
  by_cases hin : o ≤ i ∧ i < o + ds.length
  · rw [if_pos hin] at hc
    rw [if_pos (by simp; omega)] at hv'
    exact k.2 _ c v hc (by simpa using hv')
  · rw [if_neg hin] at hc
    rw [if_neg (by simp; omega)] at hv'
    exact h.2 i c v hc (by simpa using hv')
omit ok in
theorem foldl_set (off : Nat) : ∀ (us : List Value) (k : Nat) (cs : Array Value), off + k + us.length ≤ cs.size →
    ((us.zipIdx k).foldl (fun cs (c, j) => cs.setIfInBounds (off + j) c) cs) = (cs.toList.take (off + k) ++ us ++ cs.toList.drop (off + k + us.length)).toArray
  | [], k, cs, _ => by simp
  | u :: us, k, cs, h => by
    simp only [List.length_cons] at h
    rw [List.zipIdx_cons, List.foldl_cons, foldl_set off us (k + 1) _ (by simp; omega)]
    apply congrArg
    apply List.ext_getElem?
    intro i
    have e1 := row_put_get ((cs.setIfInBounds (off + k) u).toList) (off + (k + 1)) us (by simp; omega) i
    have e2 := row_put_get cs.toList (off + k) (u :: us) (by simp; omega) i
    rw [e1]
    rw [e2]
    simp only [List.length_cons, Array.getElem?_toList, Array.getElem?_setIfInBounds]
    by_cases h1 : i < off + k
    · rw [if_neg (by omega), if_neg (by omega), if_neg (by omega)]
    · by_cases h2 : i = off + k
      · subst h2
        rw [if_neg (by omega), if_pos (by omega), if_pos (by omega)]
        simp
      · by_cases h3 : i < off + (k + 1) + us.length
        · rw [if_pos (by omega), if_pos (by omega), show i - (off + k) = (i - (off + (k + 1))) + 1 by omega, List.getElem?_cons_succ]
        · rw [if_neg (by omega), if_neg (by omega), if_neg (by omega)]
omit ok in
theorem fill_rel {g : G} {place : Nat → Option (Nat × Nat)} : ∀ {ps : List (Nat × V)} {qs : List (Nat × Value)} {cs ds : List V} {vs : Array Value}, RelCells g cs vs →
    ps.length = qs.length → (∀ (i : Nat) p q, ps[i]? = some p → qs[i]? = some q → p.1 = q.1 ∧ RelV g p.2 q.2) → fillV place cs ps = some ds → ∃ us, Instr.fill place vs qs = some us ∧ RelCells g ds us ∧ ds.length = cs.length
  | [], [], cs, ds, vs, h, _, _, hf => by simp only [fillV, Option.some.injEq] at hf; subst hf; exact ⟨vs, rfl, h, rfl⟩
  | (i, x) :: ps, (j, v) :: qs, cs, ds, vs, h, hl, hr, hf => by
    obtain ⟨hij, hcv⟩ := hr 0 (i, x) (j, v) rfl rfl
    simp only at hij hcv
    subst hij
    simp only [fillV] at hf
    simp only [Instr.fill]
    cases hp : place i with
    | none => rw [hp] at hf; cases hf
    | some os =>
      obtain ⟨off, size⟩ := os
      rw [hp] at hf
      simp only at hf
      cases hb : (x.lays && (Nat.beq x.cells.length size && Nat.ble (off + size) cs.length)) with
      | false => rw [hb] at hf; cases hf
      | true =>
        rw [hb] at hf
        simp only [cond] at hf
        simp only [Bool.and_eq_true] at hb
        have hcells := (hcv.rcells hb.1).1
        have e0 := Nat.eq_of_beq_eq_true hb.2.1
        have e00 := Nat.le_of_ble_eq_true hb.2.2
        have e1 := hcells.1
        have e2 := h.1
        have hfold := foldl_set off v.cells.toList 0 vs (by simp; omega)
        simp only [Nat.add_zero] at hfold
        have e3 : v.cells.zipIdx.foldl (fun cs (c, j) => cs.setIfInBounds (off + j) c) vs = (vs.toList.take off ++ v.cells.toList ++ vs.toList.drop (off + v.cells.toList.length)).toArray := by
          rw [← hfold, ← Array.foldl_toList, Array.toList_zipIdx]
        have hnot : ¬(v.cells.size ≠ size ∨ off + v.cells.size > vs.size) := by omega
        obtain ⟨us, h1, h2, h3⟩ := fill_rel (ps := ps) (qs := qs) (h.putRow hcells (by omega)) (by simpa using hl) (fun k p q hpk hqk => hr (k + 1) p q hpk hqk) hf
        refine ⟨us, ?_, h2, by rw [h3, putRow_len _ _ _ (by omega)]⟩
        simp only [e3]
        rw [if_neg (by simpa using hnot)]
        exact h1
omit ok in
theorem parts_rel {g : G} {a : Act} (k : RelE g e a) : ∀ {ps : List (Nat × Operand)} {qs : List (Nat × V)}, evParts g.ng e ps = some qs →
    qs.length = (ps.map fun p => (p.1, a.eval p.2)).length ∧ ∀ (i : Nat) p q, qs[i]? = some p → (ps.map fun p => (p.1, a.eval p.2))[i]? = some q → p.1 = q.1 ∧ RelV g p.2 q.2
  | [], qs, h => by cases h; exact ⟨rfl, fun i p q hp _ => by simp at hp⟩
  | (i, o) :: ps, qs, h => by
    unfold evParts at h
    cases h1 : evO g.ng e o with
    | none => rw [h1] at h; cases h
    | some x =>
      rw [h1] at h
      cases h2 : evParts g.ng e ps with
      | none => rw [h2] at h; cases h
      | some xs =>
        rw [h2] at h
        cases h
        obtain ⟨h3, h4⟩ := parts_rel k h2
        refine ⟨by simp at h3 ⊢; exact h3, fun n p q hp hq => ?_⟩
        cases n with
        | zero => simp at hp hq; subst hp; subst hq; exact ⟨rfl, evO_rel h1 k⟩
        | succ n => simp only [List.getElem?_cons_succ, List.map_cons] at hp hq; exact h4 n p q hp hq
theorem run_places : ∀ {fs : List Field} {ps : List (Nat × Nat)}, placesOf ti fs = some ps → ∀ w, (fs.mapM fun f => Prod.mk f.offset <$> sizeOf f.type : Sem (List (Nat × Nat))).run P w = .ok ps w
  | [], ps, h, w => by cases h; simp
  | f :: fs, ps, h, w => by
    unfold placesOf at h
    cases h1 : ti f.type with
    | none => rw [h1] at h; cases h
    | some i =>
      rw [h1] at h
      cases h2 : placesOf ti fs with
      | none => rw [h2] at h; cases h
      | some qs =>
        rw [h2] at h
        cases h
        rw [List.mapM_cons, Sem.run_bind, Sem.run_map, ok.run_sizeOf h1]
        simp only [Result.andThen_ok]
        rw [Sem.run_bind, run_places h2]
        simp
theorem p_build {T : TypeId} {i : TyI} {parts : Array (Nat × Operand)} {qs : List (Nat × V)} {cs : List V} (hT : ti T = some i) (hq : evParts ng e parts.toList = some qs) (hlay : i.zero.lays = true)
    (h : (∃ fs ps, i.und = .struct fs ∧ placesOf ti fs.toList = some ps ∧ fillV (fun k => ps[k]?) i.zero.cells qs = some cs) ∨
      (∃ N E j, i.und = .array N E ∧ ti E = some j ∧ fillV (fun k => some (k * j.size, j.size)) i.zero.cells qs = some cs)) : APure P ng ⟨dst, .build T parts, ty, pos, af, gd⟩ e (.agg cs) := by
  intro g a hg k
  subst hg
  obtain ⟨h1, h2⟩ := parts_rel k hq
  obtain ⟨z, hz1, hz2⟩ := ok.run_zeroValue hT
  have hu := ok.run_underlying hT
  have hzc := ((hz1 g).rcells hlay).1
  have e1 : (parts.map fun (x : Nat × Operand) => (x.1, a.eval x.2)).toList = parts.toList.map fun p => (p.1, a.eval p.2) := by simp
  rcases h with ⟨fs, ps, hs, hp, hf⟩ | ⟨N, E, j, hs, hj, hf⟩
  · rw [hs] at hu
    obtain ⟨us, h3, h4, _⟩ := fill_rel hzc h1 h2 hf
    refine ⟨.agg us, .agg cs us h4.1 h4.2, fun w => ?_⟩
    have hpl : ∀ w, (fs.mapM fun f => Prod.mk f.offset <$> sizeOf f.type : Sem (Array (Nat × Nat))).run P w = .ok ps.toArray w := fun w => by
      rw [Array.mapM_eq_mapM_toList, Sem.run_map, run_places ok hp]; rfl
    simp [execOp, Instr.build, hz2, hu, hpl, h3]
  · rw [hs] at hu
    obtain ⟨us, h3, h4, _⟩ := fill_rel hzc h1 h2 hf
    refine ⟨.agg us, .agg cs us h4.1 h4.2, fun w => ?_⟩
    simp [execOp, Instr.build, hz2, hu, ok.run_sizeOf hj, h3]

theorem evP_sound {o : Oper} {x : V} (h : evP P ti ng e o = some x) : APure P ng o e x := by
  obtain ⟨dst, op, ty, pos, af, gd⟩ := o
  cases op with
  | move y => exact p_val (x := y) h fun _ _ => rfl
  | assign y => exact p_val (x := y) h fun _ _ => rfl
  | pick c a b =>
    simp only [evP, evP_pick] at h
    split at h
    · rename_i hc; exact p_pick (t := true) hc h
    · rename_i hc; exact p_pick (t := false) hc h
    · cases h
  | nilCheck y =>
    simp only [evP, evP_nilCheck] at h
    split at h
    · rename_i hy; cases h; exact p_nilCheck hy (.inl ⟨_, _, rfl⟩)
    · rename_i hy; cases h; exact p_nilCheck hy (.inr (.inl ⟨_, _, rfl⟩))
    · rename_i hy; cases h; exact p_nilCheck hy (.inr (.inr ⟨_, _, rfl⟩))
    · cases h
  | binOp op T a b T' =>
    simp only [evP, evP_binOp] at h
    split at h
    · rename_i k m k' q ha hb
      have slow : ∀ {r : V}, (match pureRun P (binOp op T (.int k m) (.int k' q)) with | some v => const1 v | none => none) = some r → APure P ng ⟨dst, .binOp op T a b T', ty, pos, af, gd⟩ e r := by
        intro r hr
        split at hr
        · rename_i v hv
          exact p_int ha hb fun g => ⟨v, const1_rel g hr, fun w => pureRun_run hv w⟩
        · cases hr
      by_cases hk : k = k'
      · subst hk
        simp only [decide_true, cond] at h
        split at h
        · rename_i r hr
          cases h
          exact p_int ha hb fun g => evI_run hr g
        · exact slow h
      · simp only [hk, decide_false, cond] at h
        exact slow h
    · rename_i vx vy _ ha hb
      split at h
      · rename_i r hr
        cases h
        exact evS_pure rfl hr
      · split at h
        · rename_i i hT
          have hu := ok.run_underlying hT
          split at h
          · cases h; exact p_nil hu ha hb (by assumption) (.inl ⟨rfl, rfl⟩)
          · cases h; exact p_nil hu ha hb (by assumption) (.inr ⟨rfl, rfl⟩)
          · cases h
        · cases h
    · cases h
  | unOp op T y => exact evS_pure rfl h
  | convert S T y => exact evS_pure rfl h
  | makeInterface T y =>
    simp only [evP, evP_makeInterface] at h
    split at h
    · rename_i i hT
      split at h
      · cases h
      · rename_i hn
        split at h
        · rename_i v hv; cases h; exact p_makeInterface ok hT hn hv
        · cases h
    · cases h
  | makeFunc fn first cap =>
    cases fn with
    | func f =>
      simp only [evP, evP_makeFunc] at h
      cases hf : first.toList.isEmpty with
      | false =>
        rw [hf] at h
        cases hc : cap.toList.isEmpty with
        | false => rw [hc] at h; cases h
        | true =>
          rw [hc] at h
          have : cap = #[] := by
            have := List.isEmpty_iff.1 hc
            exact Array.toList_inj.1 (by simpa using this)
          subst this
          simp only [cond_true, cond_false] at h
          split at h
          · rename_i xs hx; cases h; exact p_makeMeth hx
          · cases h
      | true =>
        rw [hf] at h
        have : first = #[] := by
          have := List.isEmpty_iff.1 hf
          exact Array.toList_inj.1 (by simpa using this)
        subst this
        simp only [cond] at h
        split at h
        · rename_i xs hx; cases h; exact p_makeFunc hx
        · cases h
    | _ => simp [evP, evP_makeFunc] at h
  | fieldAddr S y f =>
    simp only [evP, evP_fieldAddr] at h
    split at h <;> first | (cases h; done) | skip
    rename_i i hT
    split at h <;> first | (cases h; done) | skip
    rename_i fs hu
    split at h <;> first | (cases h; done) | skip
    rename_i fd n o hf hy
    split at h <;> first | (cases h; done) | skip
    rename_i j hj
    cases hs : Nat.beq j.size 0 with
    | true => rw [hs] at h; cases h
    | false =>
      rw [hs] at h
      cases h
      exact p_fieldAddr ok hT hu hf hj (Nat.ne_of_beq_eq_false hs) hy
  | field S y f =>
    simp only [evP, evP_field] at h
    split at h <;> first | (cases h; done) | skip
    rename_i i hT
    split at h <;> first | (cases h; done) | skip
    rename_i fs hu
    split at h <;> first | (cases h; done) | skip
    rename_i fd cs hf hy
    split at h <;> first | (cases h; done) | skip
    rename_i j hj
    exact p_field ok hT hu hf hj hy h
  | indexAddr T y ix =>
    simp only [evP, evP_indexAddr] at h
    split at h <;> first | (cases h; done) | skip
    rename_i i hT
    split at h
    · rename_i E sz n o len k m hu hy hi
      cases hm : Nat.blt m len with
      | false => rw [hm] at h; cases h
      | true =>
        rw [hm] at h
        simp only [cond] at h
        split at h <;> first | (cases h; done) | skip
        rename_i j hj
        cases h
        exact p_indexS ok hT hu hj hy hi (by simpa [Nat.blt_eq] using hm)
    · rename_i N E n o k m hu hy hi
      cases hm : Nat.blt m N with
      | false => rw [hm] at h; cases h
      | true =>
        rw [hm] at h
        simp only [cond] at h
        split at h <;> first | (cases h; done) | skip
        rename_i j hj
        cases h
        exact p_indexA ok hT hu hj hy hi (by simpa [Nat.blt_eq] using hm)
    · cases h
  | index T y ix =>
    simp only [evP, evP_index] at h
    split at h <;> first | (cases h; done) | skip
    rename_i i hT
    split at h
    · rename_i N E cs k m hu hy hi
      cases hm : Nat.blt m N with
      | false => rw [hm] at h; cases h
      | true =>
        rw [hm] at h
        simp only [cond] at h
        split at h <;> first | (cases h; done) | skip
        rename_i j hj
        exact p_indexV ok hT hu hj hy hi (by simpa [Nat.blt_eq] using hm) h
    · exact evS_pure rfl h
    · cases h
  | slice T y lo hi mx =>
    cases mx with
    | some m => simp [evP, evP_slice] at h
    | none =>
      simp only [evP, evP_slice] at h
      split at h <;> first | (cases h; done) | skip
      rename_i i hT
      split at h
      · exact evS_pure rfl h
      · rename_i E sz n o len hu hy
        split at h <;> first | (cases h; done) | skip
        rename_i l hh j hlo hhi hj
        cases hb : (Nat.beq j.size sz && (Nat.ble l hh && Nat.ble hh len)) with
        | false => rw [hb] at h; cases h
        | true =>
          rw [hb] at h
          simp only [Bool.and_eq_true] at hb
          refine p_slice ok hT hu hj hy hlo hhi (Nat.eq_of_beq_eq_true hb.1) (Nat.le_of_ble_eq_true hb.2.1) (Nat.le_of_ble_eq_true hb.2.2) ?_
          simp only [cond] at h
          cases hc : (Nat.beq l 0 || Nat.blt l len) with
          | true =>
            rw [hc] at h
            cases h
            refine .inl ⟨?_, rfl⟩
            simp only [Bool.or_eq_true] at hc
            exact hc.imp Nat.eq_of_beq_eq_true (fun e => by simpa [Nat.blt_eq] using e)
          | false =>
            rw [hc] at h
            cases h
            refine .inr ⟨?_, rfl⟩
            simp only [Bool.or_eq_false_iff] at hc
            rintro (rfl | hlt)
            · rw [Nat.beq_refl] at hc; cases hc.1
            · have : Nat.blt l len = true := by simpa [Nat.blt_eq] using hlt
              rw [this] at hc; cases hc.2
      · rename_i E x' hu hy _
        split at h <;> first | (cases h; done) | skip
        · cases h; exact p_slice0 (_j := none) ok hT (by assumption) ⟨_, by assumption⟩ (by assumption) (by assumption) (by assumption) (.inl rfl)
        · cases h; exact p_slice0 (_j := none) ok hT (by assumption) ⟨_, by assumption⟩ (by assumption) (by assumption) (by assumption) (.inr (.inl rfl))
        · cases h; exact p_slice0 (_j := none) ok hT (by assumption) ⟨_, by assumption⟩ (by assumption) (by assumption) (by assumption) (.inr (.inr rfl))
      · cases h
  | build T parts =>
    simp only [evP, evP_build] at h
    split at h <;> first | (cases h; done) | skip
    rename_i i hT
    cases hl : i.zero.lays with
    | false => rw [hl] at h; cases h
    | true =>
      rw [hl] at h
      simp only [cond] at h
      split at h
      · rename_i fs hu
        split at h <;> first | (cases h; done) | skip
        rename_i ps qs hp hq
        split at h <;> first | (cases h; done) | skip
        rename_i cs hf
        cases h
        exact p_build ok hT hq hl (.inl ⟨fs, ps, hu, hp, hf⟩)
      · rename_i N E hu
        split at h <;> first | (cases h; done) | skip
        rename_i j qs hj hq
        split at h <;> first | (cases h; done) | skip
        rename_i cs hf
        cases h
        exact p_build ok hT hq hl (.inr ⟨N, E, j, hu, hj, hf⟩)
      · cases h
  | extract y i =>
    simp only [evP, evP_extract] at h
    split at h <;> first | (cases h; done) | skip
    rename_i cs hy
    exact p_extract hy h
  | typeAssert y X A okf =>
    simp only [evP, evP_typeAssert] at h
    split at h
    · rename_i i t v hA hy
      split at h
      · cases h
      · rename_i hn
        refine p_assert ok hA hn hy (.inl ⟨t, v, rfl, ?_⟩)
        cases ht : Nat.beq t A with
        | true => rw [ht] at h; cases h; exact .inl ⟨rfl, rfl⟩
        | false =>
          rw [ht] at h
          simp only [cond] at h
          cases okf with
          | false => cases h
          | true => cases h; exact .inr ⟨rfl, rfl, rfl⟩
    · rename_i i hA hy
      split at h
      · cases h
      · rename_i hn
        cases okf with
        | false => cases h
        | true => cases h; exact p_assert ok hA hn hy (.inr ⟨rfl, rfl, rfl⟩)
    · cases h
  | call c =>
    obtain ⟨cal, as, ts⟩ := c
    cases cal with
    | builtin b =>
      simp only [evP, evP_call] at h
      split at h
      · rename_i b' as' ts' y T r has hts
        have e1 : as = #[y] := Array.toList_inj.1 (by simpa using has)
        have e2 : ts[0]? = some T := by
          have : ts.toList[0]? = some T := by rw [hts]; rfl
          simpa using this
        subst e1
        split at h
        · rename_i i sz n o len hT hy
          split at h <;> first | (cases h; done) | skip
          rename_i E hu; cases h
          exact p_len ok hT e2 hy (.inl ⟨E, hu, .inl ⟨_, _, _, rfl⟩⟩)
        · rename_i i hT hy
          split at h <;> first | (cases h; done) | skip
          rename_i E hu; cases h
          exact p_len (m := 0) ok hT e2 hy (.inl ⟨E, hu, .inr ⟨.inl rfl, rfl⟩⟩)
        · rename_i i hT hy
          split at h <;> first | (cases h; done) | skip
          rename_i E hu; cases h
          exact p_len (m := 0) ok hT e2 hy (.inl ⟨E, hu, .inr ⟨.inr (.inl rfl), rfl⟩⟩)
        · rename_i i hT hy
          split at h <;> first | (cases h; done) | skip
          rename_i E hu; cases h
          exact p_len (m := 0) ok hT e2 hy (.inl ⟨E, hu, .inr ⟨.inr (.inr rfl), rfl⟩⟩)
        · rename_i i s hT hy
          split at h <;> first | (cases h; done) | skip
          rename_i hu; cases h
          exact p_len ok hT e2 hy (.inr (.inl ⟨hu, s, rfl, rfl⟩))
        · split at h
          · rename_i N E hu; cases h
            exact p_len ok (by assumption) e2 (by assumption) (.inr (.inr (.inl ⟨E, hu⟩)))
          · rename_i A hu
            split at h <;> first | (cases h; done) | skip
            rename_i j hj
            split at h <;> first | (cases h; done) | skip
            rename_i N E hu2; cases h
            exact p_len ok (by assumption) e2 (by assumption) (.inr (.inr (.inr ⟨A, j, E, hu, hj, hu2⟩)))
          · cases h
        · cases h
      · exact evS_pure rfl h
      · exact evS_pure rfl h
      · cases h
    | _ => simp [evP, evP_call] at h
  | _ => simp [evP] at h
end

end Go.Proofs.YtojblnldfdeefaaGreatDoor.Cc
