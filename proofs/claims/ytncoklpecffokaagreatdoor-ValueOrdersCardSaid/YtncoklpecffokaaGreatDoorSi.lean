/-
  The frame, part 9: more single operations: bools, pointers against nil, slices of few elements, guards that part the way.
-/
import Derived.Test.YtncoklpecffokaaGreatDoorSh
namespace Go.Proofs.YtncoklpecffokaaGreatDoor
open Go Go.RowKit

section
variable {P : Program} {env : Env} {H : Heap} {dst : Option Tmp} {ty : TypeId} {pos : String} {af : Array Edge} {gd : Option (Nat × Bool)}

theorem ev_nilIface : Ev env (.const .nilIface) .nilIface := .const _ _ fun _ => .nilIface
theorem ev_raw {v : Value} : Ev env (.const v) (.raw v) := .const _ _ fun _ => .raw v

theorem pure_pickT {c x y : Operand} {t : Bool} {z : AV} (hc : Ev env c (.bool t)) (ht : t = true) (hx : Ev env x z) : APure P ⟨dst, .pick c x y, ty, pos, af, gd⟩ env z :=
  pure_pick hc (fun _ => hx) (fun e => by rw [ht] at e; cases e)
theorem pure_pickF {c x y : Operand} {t : Bool} {z : AV} (hc : Ev env c (.bool t)) (ht : t = false) (hy : Ev env y z) : APure P ⟨dst, .pick c x y, ty, pos, af, gd⟩ env z :=
  pure_pick hc (fun e => by rw [ht] at e; cases e) (fun _ => hy)

theorem run_neq_of {T : TypeId} {v u : Value} {b : Bool} {w : World} (hd : binOp .neq T v u = (do pure (.bool (!(← Op.equal T v u))) : Sem Value)) (h : (Op.equal T v u).run P w = .ok b w) : (binOp .neq T v u).run P w = .ok (.bool !b) w := by
  rw [hd, Sem.run_bind, h]; rfl
theorem run_eql_of {T : TypeId} {v u : Value} {b : Bool} {w : World} (hd : binOp .eql T v u = (do pure (.bool (← Op.equal T v u)) : Sem Value)) (h : (Op.equal T v u).run P w = .ok b w) : (binOp .eql T v u).run P w = .ok (.bool b) w := by
  rw [hd, Sem.run_bind, h]; rfl
theorem run_ptr_nil {T E : TypeId} (hu : P.underlying T = some (.pointer E)) (p : Option Addr) (w : World) : (Op.equal T (.pointer p) (.pointer none)).run P w = .ok p.isNone w :=
  run_equal_pointer_nil (P := P) w T p (by simp [Program.pointee, hu])
theorem exec_bin {op : BinOp} {T T' : TypeId} {x y : Operand} {a : Act} {v u r : Value} {w : World} (he : a.eval x = v) (hf : a.eval y = u) (hg : (eqGuard op T x y v u).run P w = .ok () w) (h : (binOp op T v u).run P w = .ok r w) :
    (execOp a.eval ⟨dst, .binOp op T x y T', ty, pos, af, gd⟩).run P w = .ok (.value r) w := by
  simp only [execOp, he, hf]
  simp [hg, h]
theorem pure_eqlB {T T' : TypeId} {x y : Operand} {m q : Bool} (hu : P.underlying T = some .bool) (hx : Ev env x (.bool m)) (hy : Ev env y (.bool q)) : APure P ⟨dst, .binOp .eql T x y T', ty, pos, af, gd⟩ env (.bool (m == q)) := by
  intro g n a ka
  obtain ⟨v, he, hv⟩ := ev1 hx ka
  obtain ⟨u, hf, hu'⟩ := ev1 hy ka
  cases hv; cases hu'
  exact ⟨_, .bool _, fun w _ => exec_bin he hf rfl (run_eql_of rfl (run_equal_bool w T m q hu))⟩
theorem pure_neqB {T T' : TypeId} {x y : Operand} {m q : Bool} (hu : P.underlying T = some .bool) (hx : Ev env x (.bool m)) (hy : Ev env y (.bool q)) : APure P ⟨dst, .binOp .neq T x y T', ty, pos, af, gd⟩ env (.bool (!(m == q))) := by
  intro g n a ka
  obtain ⟨v, he, hv⟩ := ev1 hx ka
  obtain ⟨u, hf, hu'⟩ := ev1 hy ka
  cases hv; cases hu'
  exact ⟨_, .bool _, fun w _ => exec_bin he hf rfl (run_neq_of rfl (run_equal_bool w T m q hu))⟩
/-- A pointer against nil. -/
theorem pure_eqlPN {T E T' : TypeId} {x y : Operand} {p : Option Addr} (hu : P.underlying T = some (.pointer E)) (hx : Ev env x (.ptr p)) (hy : Ev env y (.ptr none)) : APure P ⟨dst, .binOp .eql T x y T', ty, pos, af, gd⟩ env (.bool p.isNone) := by
  intro g n a ka
  obtain ⟨v, he, hv⟩ := ev1 hx ka
  obtain ⟨u, hf, hu'⟩ := ev1 hy ka
  cases hv; cases hu'
  exact ⟨_, .bool _, fun w _ => exec_bin he hf rfl (run_eql_of rfl (run_ptr_nil hu p w))⟩
theorem pure_neqPN {T E T' : TypeId} {x y : Operand} {p : Option Addr} (hu : P.underlying T = some (.pointer E)) (hx : Ev env x (.ptr p)) (hy : Ev env y (.ptr none)) : APure P ⟨dst, .binOp .neq T x y T', ty, pos, af, gd⟩ env (.bool !p.isNone) := by
  intro g n a ka
  obtain ⟨v, he, hv⟩ := ev1 hx ka
  obtain ⟨u, hf, hu'⟩ := ev1 hy ka
  cases hv; cases hu'
  exact ⟨_, .bool _, fun w _ => exec_bin he hf rfl (run_neq_of rfl (run_ptr_nil hu p w))⟩
theorem pure_eqlPI {T E T' : TypeId} {x y : Operand} {cs : List AV} (hu : P.underlying T = some (.pointer E)) (hx : Ev env x (.iptr cs)) (hy : Ev env y (.ptr none)) : APure P ⟨dst, .binOp .eql T x y T', ty, pos, af, gd⟩ env (.bool false) := by
  intro g n a ka
  obtain ⟨v, he, hv⟩ := ev1 hx ka
  obtain ⟨u, hf, hu'⟩ := ev1 hy ka
  cases hv; cases hu'
  exact ⟨_, .bool _, fun w _ => exec_bin he hf rfl (run_eql_of rfl (run_ptr_nil hu _ w))⟩
theorem pure_neqPI {T E T' : TypeId} {x y : Operand} {cs : List AV} (hu : P.underlying T = some (.pointer E)) (hx : Ev env x (.iptr cs)) (hy : Ev env y (.ptr none)) : APure P ⟨dst, .binOp .neq T x y T', ty, pos, af, gd⟩ env (.bool true) := by
  intro g n a ka
  obtain ⟨v, he, hv⟩ := ev1 hx ka
  obtain ⟨u, hf, hu'⟩ := ev1 hy ka
  cases hv; cases hu'
  exact ⟨_, .bool _, fun w _ => exec_bin he hf rfl (run_neq_of rfl (run_ptr_nil hu _ w))⟩

/-! slices of few elements -/
theorem raw_cells (g : G) (vs : Array Value) : RelCells g (vs.toList.map AV.raw) vs := by
  refine ⟨by simp, fun i c v hc hv => ?_⟩
  simp only [List.getElem?_map, Array.getElem?_toList] at hc
  rw [hv] at hc
  cases hc
  exact .raw v
theorem range_raw (g : G) (n : Nat) (f : Nat → Value) : RelCells g ((List.range n).map fun i => AV.raw (f i)) ((Array.range n).map f) := by
  have := raw_cells g ((Array.range n).map f)
  simpa [Function.comp_def] using this
theorem row_n {sz : Nat} : ∀ x, x ∈ ([] : List AV) → x.row sz := fun x hx => by simp at hx
theorem row_c {sz : Nat} {a : AV} {xs : List AV} (h : a.row sz) (k : ∀ x, x ∈ xs → x.row sz) : ∀ x, x ∈ a :: xs → x.row sz := fun x hx => by
  rcases List.mem_cons.1 hx with rfl | h'
  · exact h
  · exact k x h'
theorem row_app {sz : Nat} {xs ys : List AV} (h : ∀ x, x ∈ xs → x.row sz) (k : ∀ x, x ∈ ys → x.row sz) : ∀ x, x ∈ xs ++ ys → x.row sz := fun x hx => by
  rcases List.mem_append.1 hx with h' | h'
  · exact h x h'
  · exact k x h'
theorem row_drop {sz : Nat} {xs : List AV} {k : Nat} (h : ∀ x, x ∈ xs → x.row sz) : ∀ x, x ∈ xs.drop k → x.row sz := fun x hx => h x (List.mem_of_mem_drop hx)
theorem row_take {sz : Nat} {xs : List AV} {k : Nat} (h : ∀ x, x ∈ xs → x.row sz) : ∀ x, x ∈ xs.take k → x.row sz := fun x hx => h x (List.mem_of_mem_take hx)
theorem step_bs0 {T E : TypeId} {sz : Nat} {z : Value} (hu : P.underlying T = some (.slice E)) (hs : ∀ w, (sizeOf E).run P w = .ok sz w) (hz : ∀ w, (zeroValue E).run P w = .ok z w) :
    AStep P ⟨dst, .buildSlice T 0 #[], ty, pos, af, gd⟩ env H (fun y H' => y = .slice sz [] .full ∧ H' = H) :=
  step_buildSlice (ops := []) hu hs hz (fun g => range_raw g _ _) (by simp [Nat.ble]) rfl .nil row_n rfl (by simp [fillA])
theorem step_bs1 {T E : TypeId} {sz : Nat} {z : Value} {o : Operand} {x : AV} (hu : P.underlying T = some (.slice E)) (hs : ∀ w, (sizeOf E).run P w = .ok sz w) (hz : ∀ w, (zeroValue E).run P w = .ok z w) (hsz : Nat.ble (1 * sz) 16777216 = true) (h : Ev env o x)
    (h1 : x.one = true ∨ ∃ cs, x = .agg cs) (hr : x.row sz) : AStep P ⟨dst, .buildSlice T 1 #[(0, o)], ty, pos, af, gd⟩ env H (fun y H' => y = .slice sz [x] .full ∧ H' = H) := by
  refine step_buildSlice (ops := [(0, o)]) hu hs hz (fun g => range_raw g _ _) hsz rfl (.cons h h1 .nil) (row_c hr row_n) rfl ?_
  simp only [fillA, hr.1, Nat.zero_mul, Nat.one_mul, putRow]
  simp
theorem step_bs2 {T E : TypeId} {sz : Nat} {z : Value} {o o' : Operand} {x x' : AV} (hu : P.underlying T = some (.slice E)) (hs : ∀ w, (sizeOf E).run P w = .ok sz w) (hz : ∀ w, (zeroValue E).run P w = .ok z w) (hsz : Nat.ble (2 * sz) 16777216 = true) (h : Ev env o x)
    (h1 : x.one = true ∨ ∃ cs, x = .agg cs) (hr : x.row sz) (h' : Ev env o' x') (h1' : x'.one = true ∨ ∃ cs, x' = .agg cs) (hr' : x'.row sz) :
    AStep P ⟨dst, .buildSlice T 2 #[(0, o), (1, o')], ty, pos, af, gd⟩ env H (fun y H' => y = .slice sz [x, x'] .full ∧ H' = H) := by
  refine step_buildSlice (ops := [(0, o), (1, o')]) hu hs hz (fun g => range_raw g _ _) hsz rfl (.cons h h1 (.cons h' h1' .nil)) (row_c hr (row_c hr' row_n)) rfl ?_
  have e1 := hr.1
  have e2 := hr'.1
  have hl : ((List.range (2 * sz)).map fun i => AV.raw (z.cells[i % z.cells.size]!)).length = 2 * sz := by simp
  generalize ((List.range (2 * sz)).map fun i => AV.raw (z.cells[i % z.cells.size]!)) = zs at hl
  simp only [fillA, Nat.zero_mul, Nat.one_mul]
  rw [if_pos ⟨e1, by omega⟩, if_pos ⟨e2, by simp [putRow]; omega⟩]
  simp only [putRow, List.take_zero, List.nil_append, Nat.zero_add, List.flatMap_cons, List.flatMap_nil, List.append_nil, Option.some.injEq]
  rw [List.take_left' e1, List.drop_eq_nil_of_le (by simp; omega)]
  simp

/-! guards -/
end
section
variable {P : Program} {n : Nat} {Q : Exit → Env → Heap → Prop} {env : Env} {H : Heap} {ops : Array Oper} {l : List Oper}
theorem bool_casesL {b : Bool} {t : Nat} (_h : env.get? t = some (.bool b)) (ht : b = true → AList P n ops Q l env H) (hf : b = false → AList P n ops Q l env H) : AList P n ops Q l env H := by
  cases b
  · exact hf rfl
  · exact ht rfl
theorem bool_casesP {b : Bool} {t : Nat} {r : List (Nat × Bool)} (_h : env.get? t = some (.bool b)) (ht : b = true → APlan P n ops Q r env H) (hf : b = false → APlan P n ops Q r env H) : APlan P n ops Q r env H := by
  cases b
  · exact hf rfl
  · exact ht rfl
end

end Go.Proofs.YtncoklpecffokaaGreatDoor
