import Derived.Test.YtmmgbnolccpjoaaGreatDoorGhk
namespace Go.Proofs.YtmmgbnolccpjoaaGreatDoor
open Go Go.ChangeShapes Go.WideShapes Go.ChangeAt Go.RowKit

theorem wf64 {n : Int} (h : (Lit.int .u64 n).wf = true) : 0 ≤ n ∧ n < 18446744073709551616 := by
 simp [Lit.wf, IntKind.min, IntKind.max, IntKind.bits, IntKind.signed] at h
 omega
theorem wfi64 {n : Int} (h : (Lit.int .i64 n).wf = true) : -9223372036854775808 ≤ n ∧ n ≤ 9223372036854775807 := by
 simp [Lit.wf, IntKind.min, IntKind.max, IntKind.bits, IntKind.signed] at h
 omega
end Go.Proofs.YtmmgbnolccpjoaaGreatDoor
