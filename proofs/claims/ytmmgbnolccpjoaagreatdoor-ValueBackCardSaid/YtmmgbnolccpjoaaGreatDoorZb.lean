/-
  Short names.
-/
import Derived.WalkKit
namespace Go.Proofs.YtmmgbnolccpjoaaGreatDoor
open Go Go.RowKit
theorem aA {a : Prop} (h : a := by omega) : a := h
theorem aB {a : Prop} (h : a := by assumption) : a := h
theorem aC {a : Prop} (h : a := by decide) : a := h
theorem aD {a : Prop} (h : a := by rfl) : a := h
theorem aE {a : Prop} (h : a := by decide +kernel) : a := h
theorem aF {a : Prop} (h : a := by simp) : a := h
theorem aG {a : Prop} (h : a := by simp; omega) : a := h
theorem aH {a : Prop} (h : a := by simp_all) : a := h
theorem aI {c : Prop} [Decidable c] {α : Type} {a b : α} (h : ¬c := by omega) : (if c then a else b) = b := if_neg h
theorem aJ {c : Prop} [Decidable c] {α : Type} {a b : α} (h : c := by omega) : (if c then a else b) = a := if_pos h
theorem aK : (type_of% @decide_eq_true_eq) ∧ (type_of% @decide_eq_false_iff_not) ∧ (type_of% @Bool.not_eq_true') ∧ (type_of% @Bool.not_eq_false') ∧ (type_of% @Int.not_lt) ∧ (type_of% @Int.not_le) ∧ (type_of% @ne_eq.{1}) ∧ (type_of% @Decidable.not_not) := ⟨@decide_eq_true_eq, @decide_eq_false_iff_not, @Bool.not_eq_true', @Bool.not_eq_false', @Int.not_lt, @Int.not_le, @ne_eq, @Decidable.not_not⟩
theorem aL : type_of% @decide_eq_false_iff_not := @decide_eq_false_iff_not
theorem aM : type_of% @decide_eq_true_eq := @decide_eq_true_eq
theorem aN : type_of% @if_neg := @if_neg
theorem aO : type_of% @if_pos := @if_pos
theorem aP : type_of% @List.getD_eq_getElem?_getD := @List.getD_eq_getElem?_getD
theorem aQ : type_of% @List.length_take := @List.length_take
theorem aR : type_of% @Nat.lt_of_le_of_lt := @Nat.lt_of_le_of_lt
theorem aS : type_of% @List.length_append := @List.length_append
theorem aT : type_of% @Nat.pow_le_pow_right := @Nat.pow_le_pow_right
theorem aU : type_of% @List.take_of_length_le := @List.take_of_length_le
theorem aV : type_of% @Nat.mul_le_mul_right := @Nat.mul_le_mul_right
theorem aW : type_of% @Nat.mod_eq_of_lt := @Nat.mod_eq_of_lt
theorem aX : type_of% @Nat.le_refl := @Nat.le_refl
theorem aY : type_of% @Nat.eq_zero_or_pos := @Nat.eq_zero_or_pos
theorem aZ : type_of% @Nat.le_trans := @Nat.le_trans
theorem bA : type_of% @decide_eq_decide := @decide_eq_decide
theorem bB : type_of% @Nat.pow_add := @Nat.pow_add
theorem bC : type_of% @Nat.mul_assoc := @Nat.mul_assoc
theorem bD : type_of% @Nat.mul_comm := @Nat.mul_comm
theorem bE : type_of% @List.length_cons := @List.length_cons
theorem bF : type_of% @List.getElem?_eq_getElem := @List.getElem?_eq_getElem
theorem bG : type_of% @decide_eq_false := @decide_eq_false
theorem bH : type_of% @decide_eq_true := @decide_eq_true
theorem bI : type_of% @Nat.pow_pos := @Nat.pow_pos
theorem bJ : type_of% @Nat.div_lt_iff_lt_mul := @Nat.div_lt_iff_lt_mul
theorem bK : type_of% @Bool.and_eq_true := @Bool.and_eq_true
theorem bL : type_of% @List.length_nil := @List.length_nil
theorem bM : type_of% @Nat.lt_of_lt_of_le := @Nat.lt_of_lt_of_le
theorem bN : type_of% @Int.not_lt := @Int.not_lt
theorem bO : type_of% @Nat.pow_succ := @Nat.pow_succ
theorem bP : type_of% @Nat.add_mul := @Nat.add_mul
theorem bQ : type_of% @Nat.mod_lt := @Nat.mod_lt
theorem bR : type_of% @List.length_replicate := @List.length_replicate
theorem bS : type_of% @List.length_drop := @List.length_drop
theorem bT : type_of% @Nat.mul_le_mul_left := @Nat.mul_le_mul_left
theorem bU : type_of% @Nat.div_div_eq_div_mul := @Nat.div_div_eq_div_mul
theorem bV : type_of% @List.append_assoc := @List.append_assoc
theorem bW : type_of% @Nat.zero_add := @Nat.zero_add
theorem bX : type_of% @Nat.div_eq_of_lt := @Nat.div_eq_of_lt
theorem bY : type_of% @Nat.mul_add := @Nat.mul_add
theorem bZ : type_of% @Nat.lt_or_ge := @Nat.lt_or_ge
theorem cA : type_of% @Int.not_le := @Int.not_le
theorem cB : type_of% @Bool.and_eq_false_iff := @Bool.and_eq_false_iff
theorem cC : type_of% @Nat.add_zero := @Nat.add_zero
theorem cD : type_of% @Nat.div_add_mod := @Nat.div_add_mod
theorem cE : type_of% @List.getElem?_eq_some_iff := @List.getElem?_eq_some_iff
theorem cF : type_of% @Int.natCast_nonneg := @Int.natCast_nonneg
theorem cG : type_of% @Decidable.not_not := @Decidable.not_not
theorem cH : type_of% @Array.getElem?_eq_some_iff := @Array.getElem?_eq_some_iff
theorem cI : type_of% @List.length_pos_iff := @List.length_pos_iff
theorem cJ : type_of% @Bool.not_eq_false' := @Bool.not_eq_false'
theorem cK : type_of% @Bool.not_eq_true' := @Bool.not_eq_true'
theorem cL : type_of% @Nat.one_mul := @Nat.one_mul
theorem cM : type_of% @Nat.eq_of_beq_eq_true := @Nat.eq_of_beq_eq_true
theorem cN : type_of% @List.drop_eq_getElem_cons := @List.drop_eq_getElem_cons
theorem cO : type_of% @Nat.and_two_pow_sub_one_eq_mod := @Nat.and_two_pow_sub_one_eq_mod
theorem cP : type_of% @Bool.or_eq_false_iff := @Bool.or_eq_false_iff
theorem cQ : type_of% @List.mem_cons := @List.mem_cons
theorem cR : type_of% @Nat.lt_of_lt_of_eq := @Nat.lt_of_lt_of_eq
theorem cS : type_of% @List.append_nil := @List.append_nil
theorem cT : type_of% @List.nil_append := @List.nil_append
theorem cU : type_of% @Nat.div_le_self := @Nat.div_le_self
theorem cV : type_of% @Bool.or_eq_true := @Bool.or_eq_true
theorem cW : type_of% @Nat.mul_zero := @Nat.mul_zero
theorem cX : type_of% @Nat.lt_trans := @Nat.lt_trans
theorem cY : type_of% @List.take_append_drop := @List.take_append_drop
theorem cZ : type_of% @Nat.le_div_iff_mul_le := @Nat.le_div_iff_mul_le
theorem dB : type_of% @Nat.add_mul_mod_self_left := @Nat.add_mul_mod_self_left
theorem dC : type_of% @Nat.pow_zero := @Nat.pow_zero
theorem dE : type_of% @Nat.min_eq_left := @Nat.min_eq_left
theorem dF : type_of% @Nat.zero_mul := @Nat.zero_mul
theorem dG : type_of% @Nat.le_of_lt := @Nat.le_of_lt
theorem dI : type_of% @Nat.pow_lt_pow_right := @Nat.pow_lt_pow_right
theorem dJ : type_of% @List.take_append_getElem := @List.take_append_getElem
theorem dK : type_of% @List.drop_zero := @List.drop_zero
theorem dL : type_of% @List.take_length := @List.take_length
theorem dN : type_of% @List.length_eq_zero_iff := @List.length_eq_zero_iff
theorem dO : type_of% @Nat.pow_mul := @Nat.pow_mul
theorem dP : type_of% @Array.getElem?_setIfInBounds := @Array.getElem?_setIfInBounds
theorem dQ : type_of% @List.getD_cons_zero := @List.getD_cons_zero
theorem dS : type_of% @List.getD_cons_succ := @List.getD_cons_succ
theorem dU : type_of% @List.dropWhile_cons := @List.dropWhile_cons
theorem dV : type_of% @Array.getElem?_toList := @Array.getElem?_toList
theorem dW : type_of% @List.getElem?_map := @List.getElem?_map
theorem dX : type_of% @List.size_toArray := @List.size_toArray
theorem dY : type_of% @Nat.add_assoc := @Nat.add_assoc
theorem dZ : type_of% @Nat.mul_le_mul := @Nat.mul_le_mul
theorem eA : type_of% @List.getElem?_drop := @List.getElem?_drop
theorem eB : type_of% @Option.getD_some := @Option.getD_some
theorem eC : type_of% @List.dropWhile_sublist := @List.dropWhile_sublist
theorem eD : type_of% @Nat.div_mul_le_self := @Nat.div_mul_le_self
theorem eE : type_of% @Int.toNat_natCast := @Int.toNat_natCast
theorem eF : type_of% @List.mem_append := @List.mem_append
theorem eG : type_of% @Bool.false_eq_true := @Bool.false_eq_true
theorem eH : type_of% @List.getElem?_take := @List.getElem?_take
theorem eI : type_of% @Nat.pos_of_ne_zero := @Nat.pos_of_ne_zero
theorem eJ : type_of% @List.getElem_mem := @List.getElem_mem
theorem eK : type_of% @List.getElem?_append := @List.getElem?_append
theorem eL : type_of% @Nat.add_comm := @Nat.add_comm
theorem eM : type_of% @List.map_cons := @List.map_cons
theorem eN : type_of% @List.getElem?_append_right := @List.getElem?_append_right
theorem eO : type_of% @Nat.lt_of_mul_lt_mul_right := @Nat.lt_of_mul_lt_mul_right
theorem eP : type_of% @List.drop_of_length_le := @List.drop_of_length_le
theorem eQ : type_of% @List.flatMap_cons := @List.flatMap_cons
theorem eR : type_of% @Nat.mul_div_mul_right := @Nat.mul_div_mul_right
theorem eS : type_of% @List.take_append_of_le_length := @List.take_append_of_le_length
theorem eT : type_of% @List.cons_append := @List.cons_append
theorem eU : type_of% @UInt8.toNat_ofNat' := @UInt8.toNat_ofNat'
theorem eV : type_of% @List.take_zero := @List.take_zero
theorem eW : type_of% @List.mem_of_getElem? := @List.mem_of_getElem?
theorem eX : type_of% @Nat.le_mul_of_pos_right := @Nat.le_mul_of_pos_right
theorem eY : type_of% @List.length_map := @List.length_map
theorem eZ : type_of% @Nat.mul_one := @Nat.mul_one
theorem fA : type_of% @List.drop_eq_nil_of_le := @List.drop_eq_nil_of_le
theorem fB : type_of% @Nat.mul_lt_mul_of_pos_left := @Nat.mul_lt_mul_of_pos_left
theorem fC : type_of% @Nat.mul_div_cancel := @Nat.mul_div_cancel
theorem fD : type_of% @Nat.mul_mod_mul_right := @Nat.mul_mod_mul_right
theorem fE : type_of% @List.getElem?_append_left := @List.getElem?_append_left
theorem fF : type_of% @Nat.mod_add_div := @Nat.mod_add_div
theorem fG : type_of% @Nat.add_mul_div_left := @Nat.add_mul_div_left
theorem fH : type_of% @List.getElem?_cons_succ := @List.getElem?_cons_succ
theorem fI : type_of% @Nat.add_sub_cancel_left := @Nat.add_sub_cancel_left
theorem fJ : type_of% @List.replicate_succ := @List.replicate_succ
theorem fK : type_of% @List.length_reverse := @List.length_reverse
theorem fL : type_of% @List.not_mem_nil := @List.not_mem_nil
theorem fM : type_of% @List.all_eq_true := @List.all_eq_true
theorem fN : type_of% @Nat.div_one := @Nat.div_one
theorem fO : type_of% @Nat.mul_pos := @Nat.mul_pos
theorem fP : type_of% @Nat.add_sub_cancel := @Nat.add_sub_cancel
theorem fQ : type_of% @Nat.mul_add_mod := @Nat.mul_add_mod
theorem fR : type_of% @Nat.mul_add_div := @Nat.mul_add_div
theorem fT : type_of% @Array.getElem?_append := @Array.getElem?_append
theorem fU : type_of% @List.drop_drop := @List.drop_drop
theorem fV : type_of% @Nat.le_add_right := @Nat.le_add_right
theorem fW : type_of% @Nat.lt_succ_self := @Nat.lt_succ_self
theorem fX : type_of% @List.drop_length := @List.drop_length
end Go.Proofs.YtmmgbnolccpjoaaGreatDoor
