/-
  The evaluator of closed calls, part 4: what 'evP' says of an operation is so.
-/
import Derived.Test.YtncoklpecffokaaGreatDoorEc
namespace Go.Proofs.YtncoklpecffokaaGreatDoor.Cc
open Go Go.RowKit

theorem Addr.add_off (b o n : Nat) : (⟨b, o, none⟩ : Addr).add n = ⟨b, o + n, none⟩ := by
  unfold Addr.add; split
  · rename_i h; subst h; rfl
  · rfl

section
variable {P : Program} {ti : TI} {ng : Con} {e : Lk} {dst : Option Tmp} {ty : TypeId} {pos : String} {af : Array Edge} {gd : Option (Nat × Bool)}

theorem p_val {o : Oper} {x : Operand} {y : V} (h : evO ng e x = some y) (hr : ∀ (a : Act) w, (execOp a.eval o).run P w = .ok (.value (a.eval x)) w) : APure P ng o e y := by
  intro g a hg k
  subst hg
  exact ⟨_, evO_rel h k, fun w => hr a w⟩
theorem p_pick {c x y : Operand} {t : Bool} {z : V} (hc : evO ng e c = some (.bool t)) (hx : evO ng e (if t then x else y) = some z) : APure P ng ⟨dst, .pick c x y, ty, pos, af, gd⟩ e z := by
  intro g a hg k
  subst hg
  obtain ⟨v, he, hv⟩ := evO_at hc k
  cases hv
  refine ⟨_, evO_rel hx k, fun w => ?_⟩
  cases t <;> simp [execOp, he, asBool]
theorem p_nilCheck {x : Operand} {y : V} (h : evO ng e x = some y) (hy : (∃ n o, y = .ptr n o) ∨ (∃ f cs, y = .func f cs) ∨ ∃ t v, y = .iface t v) : APure P ng ⟨dst, .nilCheck x, ty, pos, af, gd⟩ e y := by
  intro g a hg k
  subst hg
  obtain ⟨v, he, hv⟩ := evO_at h k
  refine ⟨v, hv, fun w => ?_⟩
  rcases hy with ⟨n, o, rfl⟩ | ⟨f, cs, rfl⟩ | ⟨t, u, rfl⟩ <;> cases hv <;> simp [execOp, he]

/-! whole numbers -/
theorem evI_run {op : BinOp} {T : TypeId} {k : IntKind} {m q : Int} {r : V} (h : evI op k m q = some r) (g : G) : ∃ v, RelV g r v ∧ ∀ w, (binOp op T (.int k m) (.int k q)).run P w = .ok v w := by
  cases op <;> simp only [evI, Option.some.injEq, reduceCtorEq] at h <;> subst h
  · exact ⟨_, .int _ _, fun w => by simp [binOp, Op.intArith]⟩
  · exact ⟨_, .int _ _, fun w => by simp [binOp, Op.intArith]⟩
  · exact ⟨_, .int _ _, fun w => by simp [binOp, Op.intArith]⟩
  all_goals exact ⟨_, .bool _, fun w => by
    have e : (m == q) = decide (m = q) := by by_cases h : m = q <;> simp [h]
    simp [binOp, Op.intCmp, bne, e]⟩
theorem guard_int {op : BinOp} {T : TypeId} {x y : Operand} {k k' : IntKind} {m q : Int} (w : World) : (eqGuard op T x y (.int k m) (.int k' q)).run P w = .ok () w := by cases op <;> rfl
theorem p_int {op : BinOp} {T T' : TypeId} {x y : Operand} {k k' : IntKind} {m q : Int} {r : V} (hx : evO ng e x = some (.int k m)) (hy : evO ng e y = some (.int k' q))
    (h : ∀ g, ∃ v, RelV g r v ∧ ∀ w, (binOp op T (.int k m) (.int k' q)).run P w = .ok v w) : APure P ng ⟨dst, .binOp op T x y T', ty, pos, af, gd⟩ e r := by
  intro g a hg ka
  subst hg
  obtain ⟨v, he, hv⟩ := evO_at hx ka
  obtain ⟨u, hf, hu⟩ := evO_at hy ka
  cases hv; cases hu
  obtain ⟨r, h1, h2⟩ := h g
  refine ⟨r, h1, fun w => ?_⟩
  simp only [execOp, he, hf]
  simp [guard_int, h2]
/-- nil held against a reference. -/
theorem equal_nil {g : G} {x y : Operand} {vx vy : V} {v u : Value} {b : Bool} {T : TypeId} {d : TypeDesc} (hv : RelV g vx v) (hu : RelV g vy u) (h : nilCmp d x y vx vy = some b) (hT : ∀ w, (underlying T).run P w = .ok d w) (w : World) :
    (Op.equal T v u).run P w = .ok b w := by
  unfold Op.equal Op.maxDepth Op.equalIn
  rw [Sem.run_bind, hT, Result.andThen_ok]
  unfold nilCmp at h
  split at h <;> first | (exfalso; cases h; done) | (cases hv <;> cases hu <;> first | (cases h; simp; done) | (cases hc : (isC x || isC y) <;> rw [hc] at h <;> cases h; simp; done))
theorem guard_nil {g : G} {op : BinOp} {x y : Operand} {vx vy : V} {v u : Value} {b : Bool} {T : TypeId} {d : TypeDesc} (hv : RelV g vx v) (hu : RelV g vy u) (h : nilCmp d x y vx vy = some b) (w : World) :
    (eqGuard op T x y v u).run P w = .ok () w := by
  have key : (isC x || isC y) = true → (eqGuard op T x y .nilIface .nilIface).run P w = .ok () w := by
    intro hc
    have hc : isC x = true ∨ isC y = true := by simpa using hc
    cases op <;> first
      | rfl
      | (unfold eqGuard
         rcases hc with hc | hc
         · cases x <;> simp [isC] at hc
           simp
         · cases y <;> simp [isC] at hc
           simp)
  unfold nilCmp at h
  split at h <;> first | (exfalso; cases h; done) | (cases hv <;> cases hu <;> first
    | (cases op <;> rfl)
    | (cases hc : (isC x || isC y) with
       | true => exact key hc
       | false => rw [hc] at h; cases h))
theorem p_nil {op : BinOp} {T T' : TypeId} {d : TypeDesc} {x y : Operand} {vx vy : V} {b : Bool} {r : V} (hT : ∀ w, (underlying T).run P w = .ok d w) (hx : evO ng e x = some vx) (hy : evO ng e y = some vy) (h : nilCmp d x y vx vy = some b)
    (hr : (op = .eql ∧ r = .bool b) ∨ (op = .neq ∧ r = .bool !b)) : APure P ng ⟨dst, .binOp op T x y T', ty, pos, af, gd⟩ e r := by
  intro g a hg ka
  subst hg
  obtain ⟨v, he, hv⟩ := evO_at hx ka
  obtain ⟨u, hf, hu⟩ := evO_at hy ka
  have hrun := equal_nil (P := P) hv hu h hT
  have hg := guard_nil (P := P) (op := op) (T := T) hv hu h
  have e1 : binOp .eql T v u = (do pure (.bool (← Op.equal T v u)) : Sem Value) := by
    unfold nilCmp at h; split at h <;> first | (exfalso; cases h; done) | (cases hv <;> cases hu <;> rfl)
  have e2 : binOp .neq T v u = (do pure (.bool (!(← Op.equal T v u))) : Sem Value) := by
    unfold nilCmp at h; split at h <;> first | (exfalso; cases h; done) | (cases hv <;> cases hu <;> rfl)
  rcases hr with ⟨rfl, rfl⟩ | ⟨rfl, rfl⟩
  · exact ⟨_, .bool b, fun w => by simp [execOp, he, hf, hg, e1, hrun]⟩
  · exact ⟨_, .bool _, fun w => by simp [execOp, he, hf, hg, e2, hrun]⟩
end

end Go.Proofs.YtncoklpecffokaaGreatDoor.Cc
