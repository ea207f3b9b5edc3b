/-
  The frame, part 17: shifts to the right, and the bits that two numbers share.
-/
import Derived.Test.YthhcdmmihjhipaaGreatDoorS4
import Derived.Laws.Concat
import Derived.Laws.Strings2
import Derived.Laws.Strings3
namespace Go.Proofs.YthhcdmmihjhipaaGreatDoor
open Go Go.RowKit
section
variable {P : Program} {dst : Option Tmp} {ty : TypeId} {pos : String} {af : Array Edge} {gd : Option (Nat × Bool)} {env : Env}
theorem ev_str {l : List UInt8} (h : Nat.ble l.length 1000 = true) : Ev env (.const (.string ⟨l.toArray⟩)) (.str l) := .const _ _ fun _ => .str l (Nat.le_trans (Nat.le_of_ble_eq_true h) (by decide))
theorem bytesEq {a b : List UInt8} : ((⟨a.toArray⟩ : ByteArray).toList == (⟨b.toArray⟩ : ByteArray).toList) = decide (a = b) := by
  rw [ByteArray.toList_eq, ByteArray.toList_eq]
  show (a.toArray.toList == b.toArray.toList) = _
  rw [List.toList_toArray, List.toList_toArray]
  by_cases h : a = b <;> simp [h]
theorem run_binStr {T : TypeId} (a b : List UInt8) (w : World) : (binOp .eql T (.string ⟨a.toArray⟩) (.string ⟨b.toArray⟩)).run P w = .ok (.bool (decide (a = b))) w ∧ (binOp .neq T (.string ⟨a.toArray⟩) (.string ⟨b.toArray⟩)).run P w = .ok (.bool (!decide (a = b))) w := by
  rw [binOp_string_eql, binOp_string_neq, bytesEq]
  exact ⟨rfl, rfl⟩
theorem pure_eqlStr {T T' : TypeId} {x y : Operand} {m q : List UInt8} (hx : Ev env x (.str m)) (hy : Ev env y (.str q)) : APure P ⟨dst, .binOp .eql T x y T', ty, pos, af, gd⟩ env (.bool (decide (m = q))) := by
  intro g n a ka
  obtain ⟨v, he, hv⟩ := ev1 hx ka
  obtain ⟨u, hf, hu⟩ := ev1 hy ka
  cases hv; cases hu
  exact ⟨_, .bool _, fun w _ => exec_bin he hf rfl (run_binStr m q w).1⟩
theorem pure_neqStr {T T' : TypeId} {x y : Operand} {m q : List UInt8} (hx : Ev env x (.str m)) (hy : Ev env y (.str q)) : APure P ⟨dst, .binOp .neq T x y T', ty, pos, af, gd⟩ env (.bool (!decide (m = q))) := by
  intro g n a ka
  obtain ⟨v, he, hv⟩ := ev1 hx ka
  obtain ⟨u, hf, hu⟩ := ev1 hy ka
  cases hv; cases hu
  exact ⟨_, .bool _, fun w _ => exec_bin he hf rfl (run_binStr m q w).2⟩
end
end Go.Proofs.YthhcdmmihjhipaaGreatDoor

namespace Go.Proofs.YthhcdmmihjhipaaGreatDoor
open Go Go.RowKit
section
variable {P : Program} {dst : Option Tmp} {ty : TypeId} {pos : String} {af : Array Edge} {gd : Option (Nat × Bool)} {env : Env}
theorem maxLen_eq : maxLen = 9223372036854775807 := rfl
/-! ### bits -/
/-! ### conversions of numbers -/
/-! ### texts -/
theorem bmk (l : List UInt8) : (⟨l.toArray⟩ : ByteArray).size = l.length := rfl
theorem pure_indexStr {T : TypeId} {x y : Operand} {s : List UInt8} {k : IntKind} {i : Int} (hu : P.underlying T = some .string) (hx : Ev env x (.str s)) (hy : Ev env y (.int k i)) (h0 : 0 ≤ i) (h1 : i < s.length) :
    APure P ⟨dst, .index T x y, ty, pos, af, gd⟩ env (.int .u8 (((s.getD i.toNat 0).toNat : Nat) : Int)) := by
  intro g n a ka
  obtain ⟨v, he, hv⟩ := ev1 hx ka
  obtain ⟨u, hf, hu'⟩ := ev1 hy ka
  cases hv; cases hu'
  refine ⟨_, .int _ _, fun w _ => ?_⟩
  have hr := run_index_string (P := P) w T ⟨s.toArray⟩ k i hu
  rw [dif_pos ⟨h0, by rw [bmk]; exact h1⟩] at hr
  have hl : i.toNat < s.length := by omega
  have e : (⟨s.toArray⟩ : ByteArray)[i.toNat]'(by rw [bmk]; exact hl) = s.getD i.toNat 0 := by
    rw [List.getD_eq_getElem?_getD, List.getElem?_eq_getElem hl]; rfl
  rw [e] at hr
  simp [execOp, he, hf, hr]
end
end Go.Proofs.YthhcdmmihjhipaaGreatDoor

namespace Go.Proofs.YthhcdmmihjhipaaGreatDoor
open Go Go.RowKit
section
variable {P : Program} {n : Fr} {ops : Array Oper} {Q : Exit → Env → Heap → Prop} {env : Env} {H : Heap} {l : List Oper} {op : Op} {ty : TypeId} {pos : String} {af : Array Edge} {x : AV}
theorem tm {t : Tmp} (h : Env.get? env t = some x) : Ev env (.tmp t) x := .tmp _ _ h
theorem AList.as {d t : Tmp} (hd : Nat.blt d n.size = true) (h : Env.get? env t = some x) (k : AList P n ops Q l ((d, x) :: env) H) : AList P n ops Q (⟨some d, .assign (.tmp t), ty, pos, af, none⟩ :: l) env H :=
  AList.p hd (pure_assign (tm h)) k
theorem AList.e {d : Tmp} {H' : Heap} (hd : Nat.blt d n.size = true) (h : AStep P ⟨some d, op, ty, pos, af, none⟩ env H (fun y K => y = x ∧ K = H')) (k : AList P n ops Q l ((d, x) :: env) H') : AList P n ops Q (⟨some d, op, ty, pos, af, none⟩ :: l) env H :=
  AList.s hd h fun _ _ ⟨e1, e2⟩ => by subst e1; subst e2; exact k
theorem AList.e0 {H' : Heap} (h : AStep P ⟨none, op, ty, pos, af, none⟩ env H (fun y K => y = x ∧ K = H')) (k : AList P n ops Q l env H') : AList P n ops Q (⟨none, op, ty, pos, af, none⟩ :: l) env H :=
  AList.s0 h fun _ _ ⟨e1, e2⟩ => by subst e1; subst e2; exact k
theorem AList.cl {d : Tmp} {f : FuncId} {os : Array Operand} {xs : List AV} {ts : Array TypeId} (hd : Nat.blt d n.size = true) (hent : ∀ args w, (callFunc f args).run P w = .ok (.enter f args) w) (ha : Evs env os.toList xs) (h : ACall P f xs H (fun y K => y = x ∧ K = H))
    (k : AList P n ops Q l ((d, x) :: env) H) : AList P n ops Q (⟨some d, .call { callee := .value (.func f), args := os, argTypes := ts }, ty, pos, af, none⟩ :: l) env H :=
  AList.e hd (step_call0 hent ha h) k
theorem AList.ng {N : Env → Heap → Prop} (h : N env H) : AList P n ops (Next.q N Q) [] env H := AList.nil (Next.go h)
end
end Go.Proofs.YthhcdmmihjhipaaGreatDoor
