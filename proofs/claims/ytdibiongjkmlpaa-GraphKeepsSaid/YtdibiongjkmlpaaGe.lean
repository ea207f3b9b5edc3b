/-
  Equality of references and areas.
-/
import Derived.Test.YtdibiongjkmlpaaSj
import Derived.Test.YtdibiongjkmlpaaGd
namespace Go.Proofs.Ytdibiongjkmlpaa
open Go Go.RowKit
def Ref.vals (r : Ref) : List Value := [.int .i64 r.col, .int .i64 r.row, .bool r.ac, .bool r.ar]
theorem eqIn50 (d : Nat) (r s : Ref) (w : World) : (Op.equalIn (d + 2) 50 (.agg r.vals.toArray) (.agg s.vals.toArray)).run Try.prog w = .ok (decide (r = s)) w := by
  have u3 := Try.underlying3
  have a3 := Try.isAgg3
  have z3 := Try.sizeOf3
  have u4 := Try.underlying4
  have a4 := Try.isAgg4
  have z4 := Try.sizeOf4
  have hS : Try.prog.underlying 50 = some (.struct (Try.prog.fieldsOf 50)) := by kernel_rfl
  have hp : Try.prog.stoodInHeld 50 = false := by kernel_rfl
  rw [run_equalIn_agg w (d + 1) 50 _ _ hS hp]
  simp only [Program.fieldsOf, Try.underlying50, Ref.vals]
  go_simp
  obtain ⟨a, b, c, e⟩ := r
  obtain ⟨a', b', c', e'⟩ := s
  by_cases h1 : a = a' <;> by_cases h2 : b = b' <;> by_cases h3 : c = c' <;> by_cases h4 : e = e' <;> simp [h1, h2, h3, h4]
theorem eqIn52 (d : Nat) (r s : Area) (w : World) : (Op.equalIn (d + 3) 52 (.agg (r.a.vals ++ r.b.vals).toArray) (.agg (s.a.vals ++ s.b.vals).toArray)).run Try.prog w = .ok (decide (r = s)) w := by
  have a50 := Try.isAgg50
  have z50 := Try.sizeOf50
  have hS : Try.prog.underlying 52 = some (.struct (Try.prog.fieldsOf 52)) := by kernel_rfl
  have hp : Try.prog.stoodInHeld 52 = false := by kernel_rfl
  rw [run_equalIn_agg w (d + 2) 52 _ _ hS hp]
  have e1 : ∀ a b : Ref, (a.vals ++ b.vals).toArray.extract 0 (0 + 4) = a.vals.toArray := fun a b => rfl
  have e2 : ∀ a b : Ref, (a.vals ++ b.vals).toArray.extract 4 (4 + 4) = b.vals.toArray := fun a b => rfl
  have p1 : ∀ (a b : Ref) w, (part 50 (a.vals ++ b.vals).toArray 0).run Try.prog w = .ok (.agg a.vals.toArray) w := fun a b w => by simp only [part, Sem.run_bind, a50, Result.andThen_ok, z50, if_true, Sem.run_pure, e1]
  have p2 : ∀ (a b : Ref) w, (part 50 (a.vals ++ b.vals).toArray 4).run Try.prog w = .ok (.agg b.vals.toArray) w := fun a b w => by simp only [part, Sem.run_bind, a50, Result.andThen_ok, z50, if_true, Sem.run_pure, e2]
  simp only [Program.fieldsOf, Try.underlying52, Op.eqFields, ne_eq]
  obtain ⟨a, b⟩ := r
  obtain ⟨a', b'⟩ := s
  by_cases h1 : a = a' <;> by_cases h2 : b = b' <;> simp [h1, h2, p1, p2, eqIn50]
theorem eqRef (r s : Ref) : EqCells Try.prog 50 r.cs s.cs (decide (r = s)) := fun g xs ys w h k => by
  rw [h.plain r.vals rfl, k.plain s.vals rfl]; exact eqIn50 9998 r s w
theorem eqArea (r s : Area) : EqCells Try.prog 52 (r.a.cs ++ r.b.cs) (s.a.cs ++ s.b.cs) (decide (r = s)) := fun g xs ys w h k => by
  rw [h.plain (r.a.vals ++ r.b.vals) rfl, k.plain (s.a.vals ++ s.b.vals) rfl]; exact eqIn52 9997 r s w
end Go.Proofs.Ytdibiongjkmlpaa
