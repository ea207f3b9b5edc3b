/-
  The frame, part 10: '==' and '!=' of structs.
-/
import Derived.Test.YtncoklpecffokaaGreatDoorSi
namespace Go.Proofs.YtncoklpecffokaaGreatDoor
open Go Go.RowKit

/-- A datum that is one plain value: a truth or a number. -/
def AV.plain : AV → Option Value
  | .bool b => some (.bool b)
  | .int k n => some (.int k n)
  | .str s => some (.string ⟨s.toArray⟩)
  | _ => none
theorem RelV.plain {g : G} {a : AV} {v u : Value} (h : RelV g a v) (hp : a.plain = some u) : v = u := by
  cases h <;> simp_all [AV.plain]
/-- A row of plain values is known whole. -/
theorem RelCells.plain {g : G} {cs : List AV} {vs : Array Value} (us : List Value) (h : RelCells g cs vs) (hp : cs.map AV.plain = us.map some) : vs = us.toArray := by
  have hl : cs.length = us.length := by simpa using congrArg List.length hp
  apply Array.ext
  · rw [← h.1, hl]; simp
  · intro i h1 h2
    have hi : i < cs.length := by rw [h.1]; exact h1
    have e : (cs[i]).plain = some (us[i]'(by omega)) := by
      have := congrArg (fun l => l[i]?) hp
      simpa [hi, show i < us.length by omega] using this
    have := (h.2 i cs[i] vs[i] (List.getElem?_eq_getElem hi) (Array.getElem?_eq_getElem h1)).plain e
    simpa using this
/-- Rows that stand for these data are equal as the truth says. -/
def EqCells (P : Program) (T : TypeId) (cs ds : List AV) (b : Bool) : Prop :=
  ∀ g xs ys w, RelCells g cs xs → RelCells g ds ys → (Op.equalIn 10000 T (.agg xs) (.agg ys)).run P w = .ok b w
section
variable {P : Program} {dst : Option Tmp} {ty : TypeId} {pos : String} {af : Array Edge} {gd : Option (Nat × Bool)} {env : Env}
theorem pure_eqlA {T T' : TypeId} {x y : Operand} {cs ds : List AV} {b : Bool} (hm : P.eqGuardType P.depth T = false) (hx : Ev env x (.agg cs)) (hy : Ev env y (.agg ds)) (h : EqCells P T cs ds b) :
    APure P ⟨dst, .binOp .eql T x y T', ty, pos, af, gd⟩ env (.bool b) := by
  intro g n a ka
  obtain ⟨v, he, hv⟩ := ev1 hx ka
  obtain ⟨u, hf, hu⟩ := ev1 hy ka
  obtain ⟨vs, rfl, hr⟩ := hv.cells_agg
  obtain ⟨us, rfl, hs⟩ := hu.cells_agg
  refine ⟨_, .bool _, fun w _ => exec_bin he hf (run_eqGuard_agg w _ _ _ _ _ _ hm) ?_⟩
  rw [run_eql_struct, h g vs us w hr hs]; rfl
theorem pure_neqA {T T' : TypeId} {x y : Operand} {cs ds : List AV} {b : Bool} (hm : P.eqGuardType P.depth T = false) (hx : Ev env x (.agg cs)) (hy : Ev env y (.agg ds)) (h : EqCells P T cs ds b) :
    APure P ⟨dst, .binOp .neq T x y T', ty, pos, af, gd⟩ env (.bool (!b)) := by
  intro g n a ka
  obtain ⟨v, he, hv⟩ := ev1 hx ka
  obtain ⟨u, hf, hu⟩ := ev1 hy ka
  obtain ⟨vs, rfl, hr⟩ := hv.cells_agg
  obtain ⟨us, rfl, hs⟩ := hu.cells_agg
  refine ⟨_, .bool _, fun w _ => exec_bin he hf (run_eqGuard_agg w _ _ _ _ _ _ hm) ?_⟩
  rw [run_neq_struct, h g vs us w hr hs]; rfl
theorem run_slice_nilIn {T E : TypeId} (d : Nat) (h : P.underlying T = some (.slice E)) (p : Option Addr) (l c : Nat) (w : World) : (Op.equalIn (d + 1) T (.slice p l c) (.slice none 0 0)).run P w = .ok p.isNone w := by
  cases p <;> simp [Op.equalIn, run_underlying h]
theorem run_slice_nil {T E : TypeId} (h : P.underlying T = some (.slice E)) (p : Option Addr) (l c : Nat) (w : World) : (Op.equal T (.slice p l c) (.slice none 0 0)).run P w = .ok p.isNone w := run_slice_nilIn 9999 h p l c w
/-- A slice against nil: one without elements may be either. -/
theorem step_eqlNS {T E T' : TypeId} {x : Operand} {sz : Nat} {xs : List AV} {tl : Tail} {H : Heap} (hu : P.underlying T = some (.slice E)) (hx : Ev env x (.slice sz xs tl)) :
    AStep P ⟨dst, .binOp .eql T x (.const (.slice none 0 0)) T', ty, pos, af, gd⟩ env H (fun z H' => ∃ b, (b = true → xs = []) ∧ z = .bool b ∧ H' = H) := by
  intro g n a w ka s
  obtain ⟨v, he, hv⟩ := ev1 hx ka
  have key : ∀ (p : Option Addr) (l c : Nat), v = .slice p l c → (p.isNone = true → xs = []) → YieldsTo P (fun v w' => ∃ g' x H', g.le g' ∧ RelV g' x v ∧ Sat g' H' w' ∧ ∃ b, (b = true → xs = []) ∧ x = .bool b ∧ H' = H) ((execOp a.eval ⟨dst, .binOp .eql T x (.const (.slice none 0 0)) T', ty, pos, af, gd⟩).run P w) := by
    intro p l c hvp hp
    rw [exec_bin (v := .slice p l c) (u := .slice none 0 0) (he.trans hvp) rfl rfl (run_eql_of rfl (run_slice_nil hu p l c w))]
    exact ⟨g, .bool p.isNone, H, .id, .bool _, s, p.isNone, hp, rfl, rfl⟩
  cases hv with
  | nilSlice => exact key none 0 0 rfl (fun _ => rfl)
  | voidSlice => exact key _ 0 0 rfl (fun _ => rfl)
  | slice sz xs tl b off cap vs h1 h2 h3 h4 h5 h6 => exact key _ _ _ rfl (fun h => by simp at h)
end
end Go.Proofs.YtncoklpecffokaaGreatDoor
