/-
  Short names.
-/
import Derived.WalkKit
namespace Go.Proofs.YtmmgbnolccpjoaaGreatDoor
open Go Go.RowKit
theorem aA {a : Prop} (h : a := by omega) : a := h
theorem aB {a : Prop} (h : a := by assumption) : a := h
theorem aC {a : Prop} (h : a := by decide) : a := h
theorem aD {a : Prop} (h : a := by rfl) : a := h
theorem aE {a : Prop} (h : a := by decide +kernel) : a := h
theorem aF {a : Prop} (h : a := by simp) : a := h
theorem aG {a : Prop} (h : a := by simp; omega) : a := h
theorem aH {a : Prop} (h : a := by simp_all) : a := h
theorem aI {c : Prop} [Decidable c] {α : Type} {a b : α} (h : ¬c := by omega) : (if c then a else b) = b := if_neg h
theorem aJ {c : Prop} [Decidable c] {α : Type} {a b : α} (h : c := by omega) : (if c then a else b) = a := if_pos h
theorem aK : (type_of% @decide_eq_true_eq) ∧ (type_of% @decide_eq_false_iff_not) ∧ (type_of% @Bool.not_eq_true') ∧ (type_of% @Bool.not_eq_false') ∧ (type_of% @Int.not_lt) ∧ (type_of% @Int.not_le) ∧ (type_of% @ne_eq.{1}) ∧ (type_of% @Decidable.not_not) := ⟨@decide_eq_true_eq, @decide_eq_false_iff_not, @Bool.not_eq_true', @Bool.not_eq_false', @Int.not_lt, @Int.not_le, @ne_eq, @Decidable.not_not⟩
theorem aL : type_of% @if_neg := @if_neg
theorem aM : type_of% @decide_eq_false_iff_not := @decide_eq_false_iff_not
theorem aN : type_of% @if_pos := @if_pos
theorem aO : type_of% @decide_eq_true_eq := @decide_eq_true_eq
theorem aP : type_of% @List.length_append := @List.length_append
theorem aQ : type_of% @List.append_assoc := @List.append_assoc
theorem aR : type_of% @List.getD_eq_getElem?_getD := @List.getD_eq_getElem?_getD
theorem aS : type_of% @List.length_take := @List.length_take
theorem aT : type_of% @Nat.le_refl := @Nat.le_refl
theorem aU : type_of% @List.length_cons := @List.length_cons
theorem aV : type_of% @Nat.lt_of_le_of_lt := @Nat.lt_of_le_of_lt
theorem aW : type_of% @List.length_drop := @List.length_drop
theorem aX : type_of% @List.take_of_length_le := @List.take_of_length_le
theorem aY : type_of% @decide_eq_decide := @decide_eq_decide
theorem aZ : type_of% @Nat.pow_le_pow_right := @Nat.pow_le_pow_right
theorem bA : type_of% @List.getElem?_eq_getElem := @List.getElem?_eq_getElem
theorem bB : type_of% @Nat.mod_eq_of_lt := @Nat.mod_eq_of_lt
theorem bC : type_of% @Nat.mul_le_mul_right := @Nat.mul_le_mul_right
theorem bD : type_of% @decide_eq_false := @decide_eq_false
theorem bE : type_of% @Nat.le_trans := @Nat.le_trans
theorem bF : type_of% @Nat.eq_zero_or_pos := @Nat.eq_zero_or_pos
theorem bG : type_of% @decide_eq_true := @decide_eq_true
theorem bH : type_of% @List.length_nil := @List.length_nil
theorem bI : type_of% @Nat.pow_add := @Nat.pow_add
theorem bJ : type_of% @Nat.mul_assoc := @Nat.mul_assoc
theorem bK : type_of% @Bool.and_eq_true := @Bool.and_eq_true
theorem bL : type_of% @Nat.mul_comm := @Nat.mul_comm
theorem bM : type_of% @List.append_nil := @List.append_nil
theorem bN : type_of% @Nat.pow_pos := @Nat.pow_pos
theorem bO : type_of% @Nat.div_lt_iff_lt_mul := @Nat.div_lt_iff_lt_mul
theorem bP : type_of% @List.length_pos_iff := @List.length_pos_iff
theorem bQ : type_of% @Nat.lt_of_lt_of_le := @Nat.lt_of_lt_of_le
theorem bR : type_of% @Nat.pow_succ := @Nat.pow_succ
theorem bS : type_of% @Nat.add_mul := @Nat.add_mul
theorem bT : type_of% @Nat.mod_lt := @Nat.mod_lt
theorem bU : type_of% @Bool.and_eq_false_iff := @Bool.and_eq_false_iff
theorem bV : type_of% @List.length_eq_zero_iff := @List.length_eq_zero_iff
theorem bW : type_of% @List.length_replicate := @List.length_replicate
theorem bX : type_of% @Nat.mul_le_mul_left := @Nat.mul_le_mul_left
theorem bY : type_of% @Nat.div_div_eq_div_mul := @Nat.div_div_eq_div_mul
theorem bZ : type_of% @Nat.zero_add := @Nat.zero_add
theorem cA : type_of% @List.drop_eq_getElem_cons := @List.drop_eq_getElem_cons
theorem cB : type_of% @Nat.div_eq_of_lt := @Nat.div_eq_of_lt
theorem cC : type_of% @Nat.mul_add := @Nat.mul_add
theorem cD : type_of% @Nat.lt_or_ge := @Nat.lt_or_ge
theorem cE : type_of% @Bool.or_eq_false_iff := @Bool.or_eq_false_iff
theorem cF : type_of% @List.nil_append := @List.nil_append
theorem cG : type_of% @List.getD_cons_zero := @List.getD_cons_zero
theorem cH : type_of% @Int.not_lt := @Int.not_lt
theorem cI : type_of% @Nat.add_zero := @Nat.add_zero
theorem cJ : type_of% @Nat.div_add_mod := @Nat.div_add_mod
theorem cK : type_of% @List.getElem?_eq_some_iff := @List.getElem?_eq_some_iff
theorem cL : type_of% @Int.natCast_nonneg := @Int.natCast_nonneg
theorem cM : type_of% @Array.getElem?_eq_some_iff := @Array.getElem?_eq_some_iff
theorem cN : type_of% @Bool.or_eq_true := @Bool.or_eq_true
theorem cO : type_of% @List.mem_cons := @List.mem_cons
theorem cP : type_of% @Nat.one_mul := @Nat.one_mul
theorem cQ : type_of% @List.cons_append := @List.cons_append
theorem cR : type_of% @List.drop_left := @List.drop_left
theorem cS : type_of% @List.take_append_getElem := @List.take_append_getElem
theorem cT : type_of% @List.drop_zero := @List.drop_zero
theorem cU : type_of% @Nat.eq_of_beq_eq_true := @Nat.eq_of_beq_eq_true
theorem cV : type_of% @List.take_append_drop := @List.take_append_drop
theorem cW : type_of% @Nat.and_two_pow_sub_one_eq_mod := @Nat.and_two_pow_sub_one_eq_mod
theorem cX : type_of% @Int.toNat_natCast := @Int.toNat_natCast
theorem cY : type_of% @Nat.min_eq_left := @Nat.min_eq_left
theorem cZ : type_of% @Nat.lt_of_lt_of_eq := @Nat.lt_of_lt_of_eq
theorem dB : type_of% @List.getD_cons_succ := @List.getD_cons_succ
theorem dC : type_of% @List.getElem?_append := @List.getElem?_append
theorem dE : type_of% @List.take_length := @List.take_length
theorem dF : type_of% @Nat.div_le_self := @Nat.div_le_self
theorem dG : type_of% @Nat.mul_zero := @Nat.mul_zero
theorem dI : type_of% @Nat.lt_trans := @Nat.lt_trans
theorem dJ : type_of% @Nat.le_div_iff_mul_le := @Nat.le_div_iff_mul_le
theorem dK : type_of% @Int.not_le := @Int.not_le
theorem dL : type_of% @Nat.add_mul_mod_self_left := @Nat.add_mul_mod_self_left
theorem dN : type_of% @Nat.pow_zero := @Nat.pow_zero
theorem dO : type_of% @List.mem_append := @List.mem_append
theorem dP : type_of% @Decidable.not_not := @Decidable.not_not
theorem dQ : type_of% @Nat.zero_mul := @Nat.zero_mul
theorem dS : type_of% @Nat.le_of_lt := @Nat.le_of_lt
theorem dU : type_of% @Nat.pow_lt_pow_right := @Nat.pow_lt_pow_right
theorem dV : type_of% @List.dropWhile_cons := @List.dropWhile_cons
theorem dW : type_of% @Nat.pow_mul := @Nat.pow_mul
theorem dX : type_of% @List.drop_of_length_le := @List.drop_of_length_le
theorem dY : type_of% @Array.getElem?_setIfInBounds := @Array.getElem?_setIfInBounds
theorem dZ : type_of% @Option.getD_some := @Option.getD_some
theorem eA : type_of% @Array.getElem?_toList := @Array.getElem?_toList
theorem eB : type_of% @List.getElem?_map := @List.getElem?_map
theorem eC : type_of% @List.size_toArray := @List.size_toArray
theorem eD : type_of% @Nat.add_assoc := @Nat.add_assoc
theorem eE : type_of% @Nat.mul_le_mul := @Nat.mul_le_mul
theorem eF : type_of% @List.length_map := @List.length_map
theorem eG : type_of% @List.getElem?_drop := @List.getElem?_drop
theorem eH : type_of% @Bool.not_eq_false' := @Bool.not_eq_false'
theorem eI : type_of% @List.not_mem_nil := @List.not_mem_nil
theorem eJ : type_of% @List.getElem_mem := @List.getElem_mem
theorem eK : type_of% @List.dropWhile_sublist := @List.dropWhile_sublist
theorem eL : type_of% @Nat.div_mul_le_self := @Nat.div_mul_le_self
theorem eM : type_of% @List.drop_succ_cons := @List.drop_succ_cons
theorem eN : type_of% @List.map_cons := @List.map_cons
theorem eO : type_of% @Nat.add_comm := @Nat.add_comm
theorem eP : type_of% @List.take_zero := @List.take_zero
theorem eQ : type_of% @List.getElem?_take := @List.getElem?_take
theorem eR : type_of% @Nat.pos_of_ne_zero := @Nat.pos_of_ne_zero
theorem eS : type_of% @List.getElem?_append_right := @List.getElem?_append_right
theorem eT : type_of% @Nat.lt_of_mul_lt_mul_right := @Nat.lt_of_mul_lt_mul_right
theorem eU : type_of% @List.flatMap_cons := @List.flatMap_cons
theorem eV : type_of% @Bool.not_eq_true' := @Bool.not_eq_true'
theorem eW : type_of% @Nat.mul_div_mul_right := @Nat.mul_div_mul_right
theorem eX : type_of% @List.eq_nil_of_length_eq_zero := @List.eq_nil_of_length_eq_zero
theorem eY : type_of% @List.take_append_of_le_length := @List.take_append_of_le_length
theorem eZ : type_of% @List.drop_length := @List.drop_length
theorem fA : type_of% @Bool.false_eq_true := @Bool.false_eq_true
theorem fB : type_of% @UInt8.toNat_ofNat' := @UInt8.toNat_ofNat'
theorem fC : type_of% @List.take_left := @List.take_left
theorem fD : type_of% @List.mem_of_getElem? := @List.mem_of_getElem?
theorem fE : type_of% @Nat.le_mul_of_pos_right := @Nat.le_mul_of_pos_right
theorem fF : type_of% @Nat.add_sub_cancel_left := @Nat.add_sub_cancel_left
theorem fG : type_of% @List.map_append := @List.map_append
theorem fH : type_of% @Nat.mul_one := @Nat.mul_one
theorem fI : type_of% @List.drop_eq_nil_of_le := @List.drop_eq_nil_of_le
theorem fJ : type_of% @Nat.mul_lt_mul_of_pos_left := @Nat.mul_lt_mul_of_pos_left
theorem fK : type_of% @List.all_eq_true := @List.all_eq_true
theorem fL : type_of% @List.drop_drop := @List.drop_drop
theorem fM : type_of% @Nat.mul_div_cancel := @Nat.mul_div_cancel
theorem fN : type_of% @Nat.add_sub_cancel := @Nat.add_sub_cancel
theorem fO : type_of% @Nat.mul_mod_mul_right := @Nat.mul_mod_mul_right
theorem fP : type_of% @List.getElem?_append_left := @List.getElem?_append_left
theorem fQ : type_of% @Nat.mod_add_div := @Nat.mod_add_div
theorem fR : type_of% @List.mem_of_mem_take := @List.mem_of_mem_take
theorem fT : type_of% @Nat.add_mul_div_left := @Nat.add_mul_div_left
theorem fU : type_of% @Option.isSome_iff_exists := @Option.isSome_iff_exists
theorem fV : type_of% @List.getElem?_cons_succ := @List.getElem?_cons_succ
theorem fW : type_of% @List.length_reverse := @List.length_reverse
theorem fX : type_of% @Decidable.by_contra := @Decidable.by_contra
theorem fY : type_of% @Nat.div_one := @Nat.div_one
theorem fZ : type_of% @Nat.mul_pos := @Nat.mul_pos
theorem gA : type_of% @Array.getElem?_eq_none := @Array.getElem?_eq_none
theorem gB : type_of% @Nat.sub_zero := @Nat.sub_zero
theorem gC : type_of% @Nat.mul_add_mod := @Nat.mul_add_mod
theorem gD : type_of% @Nat.mul_add_div := @Nat.mul_add_div
theorem gE : type_of% @Array.getElem?_append := @Array.getElem?_append
theorem gF : type_of% @Nat.pow_one := @Nat.pow_one
theorem gG : type_of% @Nat.le_add_right := @Nat.le_add_right
theorem gH : type_of% @Nat.lt_succ_self := @Nat.lt_succ_self
theorem gI : type_of% @Nat.min_eq_right := @Nat.min_eq_right
end Go.Proofs.YtmmgbnolccpjoaaGreatDoor
