/-
  Short names.
-/
import Derived.WalkKit
namespace Go.Proofs.YteedncdcbgplfaaGreatDoor
open Go Go.RowKit
theorem aA {a : Prop} (h : a := by omega) : a := h
theorem aB {a : Prop} (h : a := by assumption) : a := h
theorem aC {a : Prop} (h : a := by decide) : a := h
theorem aD {a : Prop} (h : a := by rfl) : a := h
theorem aE {a : Prop} (h : a := by decide +kernel) : a := h
theorem aF {a : Prop} (h : a := by simp) : a := h
theorem aG {a : Prop} (h : a := by simp; omega) : a := h
theorem aH {a : Prop} (h : a := by first | rfl | assumption) : a := h
theorem aI {a : Prop} (h : a := by simp_all) : a := h
theorem aJ {c : Prop} [Decidable c] {α : Type} {a b : α} (h : ¬c := by omega) : (if c then a else b) = b := if_neg h
theorem aK {c : Prop} [Decidable c] {α : Type} {a b : α} (h : c := by omega) : (if c then a else b) = a := if_pos h
theorem aL : (type_of% @decide_eq_true_eq) ∧ (type_of% @decide_eq_false_iff_not) ∧ (type_of% @Bool.not_eq_true') ∧ (type_of% @Bool.not_eq_false') ∧ (type_of% @Int.not_lt) ∧ (type_of% @Int.not_le) ∧ (type_of% @ne_eq.{1}) ∧ (type_of% @Decidable.not_not) := ⟨@decide_eq_true_eq, @decide_eq_false_iff_not, @Bool.not_eq_true', @Bool.not_eq_false', @Int.not_lt, @Int.not_le, @ne_eq, @Decidable.not_not⟩
theorem aM : type_of% @if_neg := @if_neg
theorem aN : type_of% @if_pos := @if_pos
theorem aO : type_of% @List.length_append := @List.length_append
theorem aP : type_of% @List.getD_eq_getElem?_getD := @List.getD_eq_getElem?_getD
theorem aQ : type_of% @decide_eq_decide := @decide_eq_decide
theorem aR : type_of% @decide_eq_false_iff_not := @decide_eq_false_iff_not
theorem aS : type_of% @decide_eq_false := @decide_eq_false
theorem aT : type_of% @decide_eq_true_eq := @decide_eq_true_eq
theorem aU : type_of% @decide_eq_true := @decide_eq_true
theorem aV : type_of% @List.length_take := @List.length_take
theorem aW : type_of% @List.length_cons := @List.length_cons
theorem aX : type_of% @List.getElem?_eq_getElem := @List.getElem?_eq_getElem
theorem aY : type_of% @List.take_of_length_le := @List.take_of_length_le
theorem aZ : type_of% @Nat.le_refl := @Nat.le_refl
theorem bA : type_of% @Nat.lt_of_le_of_lt := @Nat.lt_of_le_of_lt
theorem bB : type_of% @Nat.pow_le_pow_right := @Nat.pow_le_pow_right
theorem bC : type_of% @Nat.le_trans := @Nat.le_trans
theorem bD : type_of% @Nat.mul_le_mul_right := @Nat.mul_le_mul_right
theorem bE : type_of% @List.length_replicate := @List.length_replicate
theorem bF : type_of% @Nat.eq_zero_or_pos := @Nat.eq_zero_or_pos
theorem bG : type_of% @List.length_nil := @List.length_nil
theorem bH : type_of% @Nat.mod_eq_of_lt := @Nat.mod_eq_of_lt
theorem bI : type_of% @Nat.pow_add := @Nat.pow_add
theorem bJ : type_of% @Nat.mul_assoc := @Nat.mul_assoc
theorem bK : type_of% @List.append_assoc := @List.append_assoc
theorem bL : type_of% @Nat.pow_pos := @Nat.pow_pos
theorem bM : type_of% @Nat.mul_comm := @Nat.mul_comm
theorem bN : type_of% @Bool.and_eq_true := @Bool.and_eq_true
theorem bO : type_of% @List.length_drop := @List.length_drop
theorem bP : type_of% @Nat.pow_succ := @Nat.pow_succ
theorem bQ : type_of% @Nat.lt_of_lt_of_le := @Nat.lt_of_lt_of_le
theorem bR : type_of% @Nat.mod_lt := @Nat.mod_lt
theorem bS : type_of% @Nat.mul_le_mul_left := @Nat.mul_le_mul_left
theorem bT : type_of% @List.getElem?_eq_some_iff := @List.getElem?_eq_some_iff
theorem bU : type_of% @List.append_nil := @List.append_nil
theorem bV : type_of% @List.length_pos_iff := @List.length_pos_iff
theorem bW : type_of% @Nat.div_lt_iff_lt_mul := @Nat.div_lt_iff_lt_mul
theorem bX : type_of% @Nat.lt_or_ge := @Nat.lt_or_ge
theorem bY : type_of% @Nat.add_mul := @Nat.add_mul
theorem bZ : type_of% @Nat.zero_add := @Nat.zero_add
theorem cA : type_of% @Nat.add_zero := @Nat.add_zero
theorem cB : type_of% @Nat.mul_add := @Nat.mul_add
theorem cC : type_of% @Nat.div_div_eq_div_mul := @Nat.div_div_eq_div_mul
theorem cD : type_of% @Nat.div_eq_of_lt := @Nat.div_eq_of_lt
theorem cE : type_of% @List.length_map := @List.length_map
theorem cF : type_of% @List.getElem_mem := @List.getElem_mem
theorem cG : type_of% @Array.getElem?_eq_some_iff := @Array.getElem?_eq_some_iff
theorem cH : type_of% @List.nil_append := @List.nil_append
theorem cI : type_of% @List.take_append_getElem := @List.take_append_getElem
theorem cJ : type_of% @Bool.and_eq_false_iff := @Bool.and_eq_false_iff
theorem cK : type_of% @List.take_append_drop := @List.take_append_drop
theorem cL : type_of% @List.drop_eq_getElem_cons := @List.drop_eq_getElem_cons
theorem cM : type_of% @Nat.div_add_mod := @Nat.div_add_mod
theorem cN : type_of% @List.mem_append := @List.mem_append
theorem cO : type_of% @Int.natCast_nonneg := @Int.natCast_nonneg
theorem cP : type_of% @List.length_set := @List.length_set
theorem cQ : type_of% @Nat.one_mul := @Nat.one_mul
theorem cR : type_of% @Nat.eq_of_beq_eq_true := @Nat.eq_of_beq_eq_true
theorem cS : type_of% @List.drop_of_length_le := @List.drop_of_length_le
theorem cT : type_of% @List.getElem?_map := @List.getElem?_map
theorem cU : type_of% @Int.not_lt := @Int.not_lt
theorem cV : type_of% @List.getElem?_append_left := @List.getElem?_append_left
theorem cW : type_of% @List.eq_nil_of_length_eq_zero := @List.eq_nil_of_length_eq_zero
theorem cX : type_of% @List.take_length := @List.take_length
theorem cY : type_of% @List.getElem?_append_right := @List.getElem?_append_right
theorem cZ : type_of% @Nat.min_eq_left := @Nat.min_eq_left
theorem dB : type_of% @Bool.or_eq_true := @Bool.or_eq_true
theorem dE : type_of% @Nat.mul_lt_mul_of_pos_right := @Nat.mul_lt_mul_of_pos_right
theorem dF : type_of% @List.getD_cons_succ := @List.getD_cons_succ
theorem dG : type_of% @List.mem_cons := @List.mem_cons
theorem dI : type_of% @List.length_eq_zero_iff := @List.length_eq_zero_iff
theorem dJ : type_of% @Nat.mul_zero := @Nat.mul_zero
theorem dK : type_of% @Nat.le_of_lt := @Nat.le_of_lt
theorem dL : type_of% @List.drop_zero := @List.drop_zero
theorem dN : type_of% @Bool.false_eq_true := @Bool.false_eq_true
theorem dO : type_of% @Nat.zero_mul := @Nat.zero_mul
theorem dP : type_of% @Nat.div_le_self := @Nat.div_le_self
theorem dQ : type_of% @Bool.or_eq_false_iff := @Bool.or_eq_false_iff
theorem dS : type_of% @Nat.and_two_pow_sub_one_eq_mod := @Nat.and_two_pow_sub_one_eq_mod
theorem dU : type_of% @List.take_append_of_le_length := @List.take_append_of_le_length
theorem dV : type_of% @Nat.pow_mul := @Nat.pow_mul
theorem dW : type_of% @Nat.add_mul_mod_self_left := @Nat.add_mul_mod_self_left
theorem dX : type_of% @List.map_cons := @List.map_cons
theorem dY : type_of% @List.flatMap_cons := @List.flatMap_cons
theorem dZ : type_of% @Int.toNat_natCast := @Int.toNat_natCast
theorem eA : type_of% @Nat.pow_zero := @Nat.pow_zero
theorem eB : type_of% @Nat.le_div_iff_mul_le := @Nat.le_div_iff_mul_le
theorem eC : type_of% @List.dropWhile_cons := @List.dropWhile_cons
theorem eD : type_of% @List.all_eq_true := @List.all_eq_true
theorem eE : type_of% @List.cons_append := @List.cons_append
theorem eF : type_of% @Nat.lt_of_mul_lt_mul_right := @Nat.lt_of_mul_lt_mul_right
theorem eG : type_of% @Nat.lt_trans := @Nat.lt_trans
theorem eH : type_of% @List.size_toArray := @List.size_toArray
theorem eI : type_of% @List.drop_append_of_le_length := @List.drop_append_of_le_length
theorem eJ : type_of% @List.getElem?_append := @List.getElem?_append
theorem eK : type_of% @List.getElem?_drop := @List.getElem?_drop
theorem eL : type_of% @Nat.pos_of_ne_zero := @Nat.pos_of_ne_zero
theorem eM : type_of% @List.dropWhile_sublist := @List.dropWhile_sublist
theorem eN : type_of% @Nat.mul_le_mul := @Nat.mul_le_mul
theorem eO : type_of% @Array.getElem?_setIfInBounds := @Array.getElem?_setIfInBounds
theorem eP : type_of% @List.getD_cons_zero := @List.getD_cons_zero
theorem eQ : type_of% @List.getElem_mapIdx := @List.getElem_mapIdx
theorem eR : type_of% @Array.getElem?_toList := @Array.getElem?_toList
theorem eS : type_of% @List.map_append := @List.map_append
theorem eT : type_of% @List.getElem?_take := @List.getElem?_take
theorem eU : type_of% @List.mem_singleton := @List.mem_singleton
theorem eV : type_of% @Nat.pow_lt_pow_right := @Nat.pow_lt_pow_right
theorem eW : type_of% @Option.getD_some := @Option.getD_some
theorem eX : type_of% @List.getElem_of_mem := @List.getElem_of_mem
theorem eY : type_of% @List.replicate_succ := @List.replicate_succ
theorem eZ : type_of% @Nat.div_mul_le_self := @Nat.div_mul_le_self
theorem fA : type_of% @Nat.add_assoc := @Nat.add_assoc
theorem fB : type_of% @Nat.mul_one := @Nat.mul_one
theorem fC : type_of% @List.map_replicate := @List.map_replicate
theorem fD : type_of% @Nat.le_mul_of_pos_right := @Nat.le_mul_of_pos_right
theorem fE : type_of% @Nat.lt_succ_self := @Nat.lt_succ_self
theorem fF : type_of% @List.drop_append := @List.drop_append
theorem fG : type_of% @Nat.add_comm := @Nat.add_comm
theorem fH : type_of% @List.take_zero := @List.take_zero
theorem fI : type_of% @List.take_succ_cons := @List.take_succ_cons
theorem fJ : type_of% @List.length_reverse := @List.length_reverse
theorem fK : type_of% @UInt8.toNat_inj := @UInt8.toNat_inj
theorem fL : type_of% @List.drop_length := @List.drop_length
theorem fM : type_of% @Nat.lt_of_lt_of_eq := @Nat.lt_of_lt_of_eq
theorem fN : type_of% @List.length_range' := @List.length_range'
theorem fO : type_of% @List.eq_of_mem_replicate := @List.eq_of_mem_replicate
theorem fP : type_of% @List.mem_of_getElem? := @List.mem_of_getElem?
theorem fQ : type_of% @List.mem_of_mem_take := @List.mem_of_mem_take
theorem fR : type_of% @Nat.add_mul_div_left := @Nat.add_mul_div_left
theorem fT : type_of% @List.getElem?_cons_succ := @List.getElem?_cons_succ
theorem fU : type_of% @Bool.not_eq_true' := @Bool.not_eq_true'
theorem fV : type_of% @Nat.mod_add_div := @Nat.mod_add_div
theorem fW : type_of% @List.mem_map := @List.mem_map
theorem fX : type_of% @Nat.lt_irrefl := @Nat.lt_irrefl
theorem fY : type_of% @Int.tdiv_eq_ediv_of_nonneg := @Int.tdiv_eq_ediv_of_nonneg
theorem fZ : type_of% @Nat.mul_lt_mul_of_pos_left := @Nat.mul_lt_mul_of_pos_left
theorem gA : type_of% @List.mem_range := @List.mem_range
theorem gB : type_of% @UInt8.toNat_ofNat' := @UInt8.toNat_ofNat'
theorem gC : type_of% @Array.getElem?_append := @Array.getElem?_append
theorem gD : type_of% @List.mem_of_mem_drop := @List.mem_of_mem_drop
theorem gE : type_of% @List.mem_cons_of_mem := @List.mem_cons_of_mem
theorem gF : type_of% @List.getElem?_replicate := @List.getElem?_replicate
theorem gG : type_of% @List.flatMap_append := @List.flatMap_append
theorem gH : type_of% @List.not_mem_nil := @List.not_mem_nil
theorem gI : type_of% @Nat.div_one := @Nat.div_one
theorem gJ : type_of% @Array.getElem?_eq_none := @Array.getElem?_eq_none
theorem gK : type_of% @List.drop_eq_nil_of_le := @List.drop_eq_nil_of_le
theorem gL : type_of% @Option.map_eq_some_iff := @Option.map_eq_some_iff
theorem gM : type_of% @List.getElem?_eq_none := @List.getElem?_eq_none
theorem gN : type_of% @List.length_singleton := @List.length_singleton
theorem gO : type_of% @Nat.mul_div_mul_right := @Nat.mul_div_mul_right
theorem gP : type_of% @Nat.mul_mod_mul_right := @Nat.mul_mod_mul_right
theorem gQ : type_of% @Decidable.not_not := @Decidable.not_not
theorem gS : type_of% @Nat.mul_pos := @Nat.mul_pos
theorem gT : type_of% @List.drop_drop := @List.drop_drop
theorem gU : type_of% @Nat.sub_zero := @Nat.sub_zero
theorem gV : type_of% @Nat.le_add_right := @Nat.le_add_right
theorem gW : type_of% @List.ext_getElem := @List.ext_getElem
theorem gX : type_of% @List.take_append := @List.take_append
end Go.Proofs.YteedncdcbgplfaaGreatDoor
