/-
  The frame, part 17: shifts to the right, and the bits that two numbers share.
-/
import Derived.Test.YtncoklpecffokaaGreatDoorSn
namespace Go.Proofs.YtncoklpecffokaaGreatDoor
open Go Go.RowKit
section
variable {P : Program} {dst : Option Tmp} {ty : TypeId} {pos : String} {af : Array Edge} {gd : Option (Nat × Bool)} {env : Env}
theorem ev_str {l : List UInt8} (h : Nat.ble l.length 1000 = true) : Ev env (.const (.string ⟨l.toArray⟩)) (.str l) := .const _ _ fun _ => .str l (Nat.le_trans (Nat.le_of_ble_eq_true h) (by decide))
theorem pure_shr {T T' : TypeId} {x y : Operand} {k k' : IntKind} {m q : Int} (hx : Ev env x (.int k m)) (hy : Ev env y (.int k' q)) (hq : 0 ≤ q) : APure P ⟨dst, .binOp .shr T x y T', ty, pos, af, gd⟩ env (.int k (m.fdiv (2 ^ (min q.toNat k.bits)))) := by
  intro g n a ka
  have hv := hx.rel ka
  have hu := hy.rel ka
  generalize he : a.eval x = v at hv
  generalize hf : a.eval y = u at hu
  cases hv; cases hu
  have hn : ¬ q < 0 := by omega
  refine ⟨_, .int _ _, fun w _ => ?_⟩
  simp only [execOp, he, hf]
  simp [eqGuard, binOp, Op.shift, hn]
theorem bytesEq {a b : List UInt8} : ((⟨a.toArray⟩ : ByteArray).toList == (⟨b.toArray⟩ : ByteArray).toList) = decide (a = b) := by
  rw [ByteArray.toList_eq, ByteArray.toList_eq]
  show (a.toArray.toList == b.toArray.toList) = _
  rw [List.toList_toArray, List.toList_toArray]
  by_cases h : a = b <;> simp [h]
theorem run_binStr {T : TypeId} (a b : List UInt8) (w : World) : (binOp .eql T (.string ⟨a.toArray⟩) (.string ⟨b.toArray⟩)).run P w = .ok (.bool (decide (a = b))) w ∧ (binOp .neq T (.string ⟨a.toArray⟩) (.string ⟨b.toArray⟩)).run P w = .ok (.bool (!decide (a = b))) w := by
  rw [binOp_string_eql, binOp_string_neq, bytesEq]
  exact ⟨rfl, rfl⟩
theorem pure_eqlStr {T T' : TypeId} {x y : Operand} {m q : List UInt8} (hx : Ev env x (.str m)) (hy : Ev env y (.str q)) : APure P ⟨dst, .binOp .eql T x y T', ty, pos, af, gd⟩ env (.bool (decide (m = q))) := by
  intro g n a ka
  obtain ⟨v, he, hv⟩ := ev1 hx ka
  obtain ⟨u, hf, hu⟩ := ev1 hy ka
  cases hv; cases hu
  exact ⟨_, .bool _, fun w _ => exec_bin he hf rfl (run_binStr m q w).1⟩
theorem pure_neqStr {T T' : TypeId} {x y : Operand} {m q : List UInt8} (hx : Ev env x (.str m)) (hy : Ev env y (.str q)) : APure P ⟨dst, .binOp .neq T x y T', ty, pos, af, gd⟩ env (.bool (!decide (m = q))) := by
  intro g n a ka
  obtain ⟨v, he, hv⟩ := ev1 hx ka
  obtain ⟨u, hf, hu⟩ := ev1 hy ka
  cases hv; cases hu
  exact ⟨_, .bool _, fun w _ => exec_bin he hf rfl (run_binStr m q w).2⟩
def iand (m q : Int) : Int := IntKind.u64.wrap ((BitVec.ofInt 64 m &&& BitVec.ofInt 64 q).toNat : Int)
theorem pure_and {T T' : TypeId} {x y : Operand} {m q : Int} (hx : Ev env x (.int .u64 m)) (hy : Ev env y (.int .u64 q)) : APure P ⟨dst, .binOp .and T x y T', ty, pos, af, gd⟩ env (.int .u64 (iand m q)) :=
  pure_int2 hx hy fun _ => ⟨_, .int _ _, fun w => by simp [binOp, Op.intBits, iand]; rfl⟩
end
theorem shr_of (m : Int) (n : Nat) : m.fdiv (2 ^ n) = m / (2 ^ n : Nat) := by
  have h : (0 : Int) ≤ (2 ^ n : Nat) := Int.natCast_nonneg _
  rw [show ((2 : Int) ^ n) = ((2 ^ n : Nat) : Int) by simp]
  exact Int.fdiv_eq_ediv_of_nonneg _ h
theorem iand_low (m : Int) (j : Nat) (hj : j ≤ 63) (h0 : 0 ≤ m) (h1 : m < 18446744073709551616) : iand m ((2 ^ j : Nat) - 1) = m % (2 ^ j : Nat) := by
  obtain ⟨k, rfl⟩ := Int.eq_ofNat_of_zero_le h0
  have hk : k < 18446744073709551616 := by omega
  have hp : 1 ≤ 2 ^ j := Nat.one_le_two_pow
  have hp2 : 2 ^ j ≤ 2 ^ 63 := Nat.pow_le_pow_right (by decide) hj
  have e1 : (BitVec.ofInt 64 (k : Int)).toNat = k := by
    rw [BitVec.toNat_ofInt]
    omega
  have e2 : (BitVec.ofInt 64 ((2 ^ j : Nat) - 1 : Int)).toNat = 2 ^ j - 1 := by
    rw [BitVec.toNat_ofInt]
    omega
  unfold iand
  rw [BitVec.toNat_and, e1, e2, Nat.and_two_pow_sub_one_eq_mod]
  have : k % 2 ^ j < 2 ^ j := Nat.mod_lt _ (by omega)
  have e3 : ((k % 2 ^ j : Nat) : Int) = (k : Int) % ((2 ^ j : Nat) : Int) := by simp
  rw [← e3]
  generalize k % 2 ^ j = z at *
  exact wrap_of (by simp [IntKind.min, IntKind.signed]) (by simp [IntKind.max, IntKind.bits, IntKind.signed]; omega)
end Go.Proofs.YtncoklpecffokaaGreatDoor
