/-
  The frame, part 17: shifts to the right, and the bits that two numbers share.
-/
import Derived.Test.YtifoddpbmlajfaaGreatDoorS4
import Derived.Laws.Concat
import Derived.Laws.Strings2
import Derived.Laws.Strings3
namespace Go.Proofs.YtifoddpbmlajfaaGreatDoor
open Go Go.RowKit
section
variable {P : Program} {dst : Option Tmp} {ty : TypeId} {pos : String} {af : Array Edge} {gd : Option (Nat × Bool)} {env : Env}
theorem ev_str {l : List UInt8} (h : Nat.ble l.length 1000 = true) : Ev env (.const (.string ⟨l.toArray⟩)) (.str l) := .const _ _ fun _ => .str l (Nat.le_trans (Nat.le_of_ble_eq_true h) (by decide))
theorem pure_shr {T T' : TypeId} {x y : Operand} {k k' : IntKind} {m q : Int} (hx : Ev env x (.int k m)) (hy : Ev env y (.int k' q)) (hq : 0 ≤ q) : APure P ⟨dst, .binOp .shr T x y T', ty, pos, af, gd⟩ env (.int k (m.fdiv (2 ^ (min q.toNat k.bits)))) := by
  intro g n a ka
  have hv := hx.rel ka
  have hu := hy.rel ka
  generalize he : a.eval x = v at hv
  generalize hf : a.eval y = u at hu
  cases hv; cases hu
  have hn : ¬ q < 0 := by omega
  refine ⟨_, .int _ _, fun w _ => ?_⟩
  simp only [execOp, he, hf]
  simp [eqGuard, binOp, Op.shift, hn]
theorem bytesEq {a b : List UInt8} : ((⟨a.toArray⟩ : ByteArray).toList == (⟨b.toArray⟩ : ByteArray).toList) = decide (a = b) := by
  rw [ByteArray.toList_eq, ByteArray.toList_eq]
  show (a.toArray.toList == b.toArray.toList) = _
  rw [List.toList_toArray, List.toList_toArray]
  by_cases h : a = b <;> simp [h]
theorem run_binStr {T : TypeId} (a b : List UInt8) (w : World) : (binOp .eql T (.string ⟨a.toArray⟩) (.string ⟨b.toArray⟩)).run P w = .ok (.bool (decide (a = b))) w ∧ (binOp .neq T (.string ⟨a.toArray⟩) (.string ⟨b.toArray⟩)).run P w = .ok (.bool (!decide (a = b))) w := by
  rw [binOp_string_eql, binOp_string_neq, bytesEq]
  exact ⟨rfl, rfl⟩
theorem pure_eqlStr {T T' : TypeId} {x y : Operand} {m q : List UInt8} (hx : Ev env x (.str m)) (hy : Ev env y (.str q)) : APure P ⟨dst, .binOp .eql T x y T', ty, pos, af, gd⟩ env (.bool (decide (m = q))) := by
  intro g n a ka
  obtain ⟨v, he, hv⟩ := ev1 hx ka
  obtain ⟨u, hf, hu⟩ := ev1 hy ka
  cases hv; cases hu
  exact ⟨_, .bool _, fun w _ => exec_bin he hf rfl (run_binStr m q w).1⟩
theorem pure_neqStr {T T' : TypeId} {x y : Operand} {m q : List UInt8} (hx : Ev env x (.str m)) (hy : Ev env y (.str q)) : APure P ⟨dst, .binOp .neq T x y T', ty, pos, af, gd⟩ env (.bool (!decide (m = q))) := by
  intro g n a ka
  obtain ⟨v, he, hv⟩ := ev1 hx ka
  obtain ⟨u, hf, hu⟩ := ev1 hy ka
  cases hv; cases hu
  exact ⟨_, .bool _, fun w _ => exec_bin he hf rfl (run_binStr m q w).2⟩
end
end Go.Proofs.YtifoddpbmlajfaaGreatDoor

namespace Go.Proofs.YtifoddpbmlajfaaGreatDoor
open Go Go.RowKit
section
variable {P : Program} {n : Fr} {ops : Array Oper} {Q : Exit → Env → Heap → Prop} {env : Env} {H : Heap} {l : List Oper} {op : Op} {ty : TypeId} {pos : String} {af : Array Edge} {x : AV}
theorem tm {t : Tmp} (h : Env.get? env t = some x) : Ev env (.tmp t) x := .tmp _ _ h
theorem AList.mv {d t : Tmp} (hd : Nat.blt d n.size = true) (h : Env.get? env t = some x) (k : AList P n ops Q l ((d, x) :: env) H) : AList P n ops Q (⟨some d, .move (.tmp t), ty, pos, af, none⟩ :: l) env H :=
  AList.p hd (pure_move (tm h)) k
theorem AList.as {d t : Tmp} (hd : Nat.blt d n.size = true) (h : Env.get? env t = some x) (k : AList P n ops Q l ((d, x) :: env) H) : AList P n ops Q (⟨some d, .assign (.tmp t), ty, pos, af, none⟩ :: l) env H :=
  AList.p hd (pure_assign (tm h)) k
theorem AList.e {d : Tmp} {H' : Heap} (hd : Nat.blt d n.size = true) (h : AStep P ⟨some d, op, ty, pos, af, none⟩ env H (fun y K => y = x ∧ K = H')) (k : AList P n ops Q l ((d, x) :: env) H') : AList P n ops Q (⟨some d, op, ty, pos, af, none⟩ :: l) env H :=
  AList.s hd h fun _ _ ⟨e1, e2⟩ => by subst e1; subst e2; exact k
theorem AList.e0 {H' : Heap} (h : AStep P ⟨none, op, ty, pos, af, none⟩ env H (fun y K => y = x ∧ K = H')) (k : AList P n ops Q l env H') : AList P n ops Q (⟨none, op, ty, pos, af, none⟩ :: l) env H :=
  AList.s0 h fun _ _ ⟨e1, e2⟩ => by subst e1; subst e2; exact k
theorem AList.cl {d : Tmp} {f : FuncId} {os : Array Operand} {xs : List AV} {ts : Array TypeId} (hd : Nat.blt d n.size = true) (hent : ∀ args w, (callFunc f args).run P w = .ok (.enter f args) w) (ha : Evs env os.toList xs) (h : ACall P f xs H (fun y K => y = x ∧ K = H))
    (k : AList P n ops Q l ((d, x) :: env) H) : AList P n ops Q (⟨some d, .call { callee := .value (.func f), args := os, argTypes := ts }, ty, pos, af, none⟩ :: l) env H :=
  AList.e hd (step_call0 hent ha h) k
theorem AWP.sr {id : Nat} {y : Code} (h : AList P n l.toArray (Next.q (AWP P n y Q) Q) l env H) : AWP P n (.seq (.region id l.toArray false) y) Q env H := AWP.seq (AWP.region h)
theorem AList.ng {N : Env → Heap → Prop} (h : N env H) : AList P n ops (Next.q N Q) [] env H := AList.nil (Next.go h)
theorem AList.nr {id : Nat} {Q' : Exit → Env → Heap → Prop} {l' : List Oper} {y : Code} (h : AList P n l'.toArray (Next.q (AWP P n y Q') Q') l' env H) : AList P n ops (Next.q (AWP P n (.seq (.region id l'.toArray false) y) Q') Q) [] env H := AList.ng (AWP.sr h)
end
end Go.Proofs.YtifoddpbmlajfaaGreatDoor

namespace Go.Proofs.YtifoddpbmlajfaaGreatDoor
open Go Go.RowKit
section
variable {P : Program} {dst : Option Tmp} {ty : TypeId} {pos : String} {af : Array Edge} {gd : Option (Nat × Bool)} {env : Env}
theorem maxLen_eq : maxLen = 9223372036854775807 := rfl
theorem ev_nat {k : IntKind} (n : Nat) : Ev env (.const (.int k (n : Int))) (.int k (n : Int)) := .const _ _ fun _ => .int k _

/-! ### bits -/
theorem ofInt_toNat {w a : Nat} (h : a < 2 ^ w) : (BitVec.ofInt w (a : Int)).toNat = a := by
  rw [BitVec.toNat_ofInt]
  have : ((a : Int) % ((2 ^ w : Nat) : Int)) = a := Int.emod_eq_of_lt (by omega) (by exact_mod_cast h)
  rw [this]; rfl
theorem bits_nat {k : IntKind} {a b : Nat} (ha : a < 2 ^ k.bits) (hb : b < 2 ^ k.bits) :
    bits .and k a b = k.wrap ((a &&& b : Nat) : Int) ∧ bits .or k a b = k.wrap ((a ||| b : Nat) : Int) ∧ bits .xor k a b = k.wrap ((a ^^^ b : Nat) : Int) ∧ bits .andNot k a b = k.wrap ((a - (a &&& b) : Nat) : Int) := by
  refine ⟨?_, ?_, ?_, ?_⟩
  · show k.wrap ((BitVec.ofInt k.bits (a : Int) &&& BitVec.ofInt k.bits (b : Int)).toNat : Int) = _; rw [BitVec.toNat_and, ofInt_toNat ha, ofInt_toNat hb]
  · show k.wrap ((BitVec.ofInt k.bits (a : Int) ||| BitVec.ofInt k.bits (b : Int)).toNat : Int) = _; rw [BitVec.toNat_or, ofInt_toNat ha, ofInt_toNat hb]
  · show k.wrap ((BitVec.ofInt k.bits (a : Int) ^^^ BitVec.ofInt k.bits (b : Int)).toNat : Int) = _; rw [BitVec.toNat_xor, ofInt_toNat ha, ofInt_toNat hb]
  · show k.wrap ((BitVec.ofInt k.bits (a : Int) &&& ~~~BitVec.ofInt k.bits (b : Int)).toNat : Int) = _
    have e1 := ofInt_toNat ha
    have e2 := ofInt_toNat hb
    generalize BitVec.ofInt k.bits (a : Int) = x at e1 ⊢
    generalize BitVec.ofInt k.bits (b : Int) = y at e2 ⊢
    have hd : (x &&& ~~~y) &&& (x &&& y) = 0#_ := by
      ext i
      simp
      intros; simp_all
    have hs : (x &&& ~~~y) + (x &&& y) = x := by
      rw [BitVec.add_eq_or_of_and_eq_zero _ _ hd]
      ext i
      simp
      cases x[i] <;> cases y[i] <;> rfl
    have h1 := congrArg BitVec.toNat hs
    rw [BitVec.toNat_add, BitVec.toNat_and x y, e1, e2] at h1
    have h2 : (x &&& ~~~y).toNat ≤ a := by rw [BitVec.toNat_and, e1]; exact Nat.and_le_left
    have h3 : a &&& b ≤ a := Nat.and_le_left
    have key : (x &&& ~~~y).toNat = a - (a &&& b) := by
      generalize (x &&& ~~~y).toNat = z at *
      generalize a &&& b = u at *
      rcases Nat.lt_or_ge (z + u) (2 ^ k.bits) with h | h
      · rw [Nat.mod_eq_of_lt h] at h1; omega
      · rw [Nat.mod_eq_sub_mod h, Nat.mod_eq_of_lt (by omega)] at h1; omega
    rw [key]
theorem run_bits {op : BinOp} {T : TypeId} {k : IntKind} {x y : Int} {w : World} (h : op = .and ∨ op = .or ∨ op = .xor ∨ op = .andNot) : (binOp op T (.int k x) (.int k y)).run P w = .ok (.int k (bits op k x y)) w := by
  rcases h with rfl | rfl | rfl | rfl <;> simp [binOp, intBits_and, intBits_or, intBits_xor, intBits_andNot]
theorem shr_nat {w a q : Nat} (h : a < 2 ^ w) : (a : Int).fdiv (2 ^ (min (q : Int).toNat w)) = ((a / 2 ^ q : Nat) : Int) := by
  have e : ((2 : Int) ^ (min (q : Int).toNat w)) = ((2 ^ (min q w) : Nat) : Int) := by simp
  rw [e, Int.fdiv_eq_ediv_of_nonneg _ (Int.natCast_nonneg _), ← Int.natCast_ediv]
  congr 1
  by_cases hq : q ≤ w
  · rw [Nat.min_eq_left hq]
  · rw [Nat.min_eq_right (by omega), Nat.div_eq_of_lt h, Nat.div_eq_of_lt (Nat.lt_of_lt_of_le h (Nat.pow_le_pow_right (by decide) (by omega)))]
theorem wrap8 {n : Int} (h0 : 0 ≤ n) (h1 : n < 256) : IntKind.u8.wrap n = n := wrap_of (by simp [IntKind.min, IntKind.signed]; try omega) (by simp [IntKind.max, IntKind.bits, IntKind.signed]; omega)
theorem wrapN8 {a : Nat} (h : a < 256) : IntKind.u8.wrap (a : Int) = a := wrap8 (Int.natCast_nonneg _) (by omega)
theorem lt8 {a : Nat} (h : a < 256) : a < 2 ^ IntKind.u8.bits := by simp [IntKind.bits]; omega
theorem pure_andNot8 {T T' : TypeId} {x y : Operand} {a b : Nat} (hx : Ev env x (.int .u8 (a : Int))) (hy : Ev env y (.int .u8 (b : Int))) (ha : a < 256) (hb : b < 256) : APure P ⟨dst, .binOp .andNot T x y T', ty, pos, af, gd⟩ env (.int .u8 ((a - (a &&& b) : Nat) : Int)) :=
  pure_int2 hx hy fun _ => ⟨_, .int _ _, fun w => by
    have h : (a - (a &&& b)) < 256 := by omega
    have e := (bits_nat (k := .u8) (lt8 ha) (lt8 hb)).2.2.2
    rw [wrapN8 h] at e
    rw [run_bits (by simp), e]⟩
theorem wrap64 {n : Int} (h0 : 0 ≤ n) (h1 : n < 18446744073709551616) : IntKind.u64.wrap n = n := wrap_of (by simp [IntKind.min, IntKind.signed]; try omega) (by simp [IntKind.max, IntKind.bits, IntKind.signed]; omega)
theorem wrapN64 {a : Nat} (h : a < 18446744073709551616) : IntKind.u64.wrap (a : Int) = a := wrap64 (Int.natCast_nonneg _) (by omega)
theorem lt64 {a : Nat} (h : a < 18446744073709551616) : a < 2 ^ IntKind.u64.bits := by simp [IntKind.bits]; omega
theorem pure_and64 {T T' : TypeId} {x y : Operand} {a b : Nat} (hx : Ev env x (.int .u64 (a : Int))) (hy : Ev env y (.int .u64 (b : Int))) (ha : a < 18446744073709551616) (hb : b < 18446744073709551616) : APure P ⟨dst, .binOp .and T x y T', ty, pos, af, gd⟩ env (.int .u64 ((a &&& b : Nat) : Int)) :=
  pure_int2 hx hy fun _ => ⟨_, .int _ _, fun w => by
    have h : (a &&& b) < 18446744073709551616 := Nat.lt_of_le_of_lt Nat.and_le_left ha
    have e := (bits_nat (k := .u64) (lt64 ha) (lt64 hb)).1
    rw [wrapN64 h] at e
    rw [run_bits (by simp), e]⟩
theorem pure_andNot64 {T T' : TypeId} {x y : Operand} {a b : Nat} (hx : Ev env x (.int .u64 (a : Int))) (hy : Ev env y (.int .u64 (b : Int))) (ha : a < 18446744073709551616) (hb : b < 18446744073709551616) : APure P ⟨dst, .binOp .andNot T x y T', ty, pos, af, gd⟩ env (.int .u64 ((a - (a &&& b) : Nat) : Int)) :=
  pure_int2 hx hy fun _ => ⟨_, .int _ _, fun w => by
    have h : (a - (a &&& b)) < 18446744073709551616 := by omega
    have e := (bits_nat (k := .u64) (lt64 ha) (lt64 hb)).2.2.2
    rw [wrapN64 h] at e
    rw [run_bits (by simp), e]⟩
theorem pure_shr64 {T T' : TypeId} {x y : Operand} {k' : IntKind} {a q : Nat} (hx : Ev env x (.int .u64 (a : Int))) (hy : Ev env y (.int k' (q : Int))) (ha : a < 18446744073709551616) : APure P ⟨dst, .binOp .shr T x y T', ty, pos, af, gd⟩ env (.int .u64 ((a / 2 ^ q : Nat) : Int)) := by
  have h := pure_shr (P := P) (dst := dst) (T := T) (T' := T') (ty := ty) (pos := pos) (af := af) (gd := gd) hx hy (Int.natCast_nonneg q)
  rwa [shr_nat (lt64 ha)] at h
theorem pure_rem64 {T T' : TypeId} {x y : Operand} {a b : Nat} (hx : Ev env x (.int .u64 (a : Int))) (hy : Ev env y (.int .u64 (b : Int))) (hb : 0 < b) : APure P ⟨dst, .binOp .rem T x y T', ty, pos, af, gd⟩ env (.int .u64 ((a % b : Nat) : Int)) := by
  have h := pure_rem (P := P) (dst := dst) (T := T) (T' := T') (ty := ty) (pos := pos) (af := af) (gd := gd) hx hy (by omega)
  have e : (a : Int).tmod b = ((a % b : Nat) : Int) := by rw [Int.tmod_eq_emod_of_nonneg (by omega)]; simp
  rwa [e] at h
theorem wrapI64 {n : Int} (h0 : 0 ≤ n) (h1 : n < 9223372036854775808) : IntKind.i64.wrap n = n := wrap_of (by simp [IntKind.min, IntKind.signed, IntKind.bits]; try omega) (by simp [IntKind.max, IntKind.bits, IntKind.signed]; omega)
/-! ### conversions of numbers -/
theorem pure_convW {S D : TypeId} {x : Operand} {k k' : IntKind} {n : Int} {u : TypeDesc} (hs : P.underlying S = some u) (hd : P.underlying D = some (.int k')) (hx : Ev env x (.int k n)) : APure P ⟨dst, .convert S D x, ty, pos, af, gd⟩ env (.int k' (k'.wrap n)) := by
  intro g m a ka
  obtain ⟨v, he, hv⟩ := ev1 hx ka
  cases hv
  refine ⟨_, .int _ _, fun w _ => ?_⟩
  simp [execOp, he, convert, underlying, hs, hd, Conv.intToInt]
theorem pure_convX {S D : TypeId} {x : Operand} {k k' : IntKind} {n : Int} {u : TypeDesc} (hs : P.underlying S = some u) (hd : P.underlying D = some (.int k')) (hx : Ev env x (.int k n)) (h : k'.wrap n = n) : APure P ⟨dst, .convert S D x, ty, pos, af, gd⟩ env (.int k' n) := by
  have := pure_convW (P := P) (dst := dst) (ty := ty) (pos := pos) (af := af) (gd := gd) hs hd hx
  rwa [h] at this
/-! ### texts -/
theorem bmk (l : List UInt8) : (⟨l.toArray⟩ : ByteArray).size = l.length := rfl
end
end Go.Proofs.YtifoddpbmlajfaaGreatDoor
