/-
  Equality of values.
-/
import Derived.Test.YtncoklpecffokaaGreatDoorSj
import Derived.Test.YtncoklpecffokaaGreatDoorVa1
namespace Go.Proofs.YtncoklpecffokaaGreatDoor
open Go Go.RowKit
instance : DecidableEq Val := fun x y =>
  if h : x.kind = y.kind ∧ x.bits = y.bits ∧ x.is = y.is ∧ x.text = y.text ∧ x.fail = y.fail then .isTrue (by cases x; cases y; simp_all) else .isFalse (by rintro rfl; exact h ⟨rfl, rfl, rfl, rfl, rfl⟩)
def Val.vals (r : Val) : List Value := [.int .i64 r.kind, .int .u64 r.bits, .bool r.is, .string ⟨r.text.toArray⟩, .int .i64 r.fail]
theorem bytes_inj {a b : List UInt8} : ((⟨a.toArray⟩ : ByteArray) = ⟨b.toArray⟩) ↔ a = b := by
  constructor
  · intro h; have := congrArg (fun x : ByteArray => x.data.toList) h; simpa using this
  · rintro rfl; rfl
theorem eqIn24 (d : Nat) (r s : Val) (w : World) : (Op.equalIn (d + 2) 24 (.agg r.vals.toArray) (.agg s.vals.toArray)).run Tryz.prog w = .ok (decide (r = s)) w := by
  have u3 := Tryz.underlying3
  have a3 := Tryz.isAgg3
  have z3 := Tryz.sizeOf3
  have u4 := Tryz.underlying4
  have a4 := Tryz.isAgg4
  have z4 := Tryz.sizeOf4
  have u22 := Tryz.underlying22
  have a22 := Tryz.isAgg22
  have z22 := Tryz.sizeOf22
  have u9 := Tryz.underlying9
  have a9 := Tryz.isAgg9
  have z9 := Tryz.sizeOf9
  have hS : Tryz.prog.underlying 24 = some (.struct (Tryz.prog.fieldsOf 24)) := by kernel_rfl
  have hp : Tryz.prog.stoodInHeld 24 = false := by kernel_rfl
  rw [run_equalIn_agg w (d + 1) 24 _ _ hS hp]
  simp only [Program.fieldsOf, Tryz.underlying24, Val.vals]
  go_simp
  obtain ⟨a, b, c, e, f⟩ := r
  obtain ⟨a', b', c', e', f'⟩ := s
  have hb := @bytes_inj e e'
  by_cases h1 : a = a' <;> by_cases h2 : b = b' <;> by_cases h3 : c = c' <;> by_cases h4 : e = e' <;> by_cases h5 : f = f' <;> simp [h1, h2, h3, h4, h5, bytes_inj]
theorem eqVal (r s : Val) : EqCells Tryz.prog 24 r.cs s.cs (decide (r = s)) := fun g xs ys w h k => by
  rw [h.plain r.vals rfl, k.plain s.vals rfl]; exact eqIn24 9998 r s w
end Go.Proofs.YtncoklpecffokaaGreatDoor
