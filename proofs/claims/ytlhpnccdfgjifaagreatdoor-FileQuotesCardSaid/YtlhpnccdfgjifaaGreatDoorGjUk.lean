/-
  Closed facts of the program, each by itself.
-/
import Derived.Test.YtlhpnccdfgjifaaGreatDoorCards
import Derived.Test.YtlhpnccdfgjifaaGreatDoorTie
import Derived.Test.YtlhpnccdfgjifaaGreatDoorG1
import Derived.SevenTiedAt
namespace Go.Proofs.YtlhpnccdfgjifaaGreatDoor
open Go Go.RowKit

set_option maxRecDepth 1000000
theorem Quotes_lifts : (Rows.fileQuotesRow.lifted == Tryz.prog.liftsFinal) = true := by kernel_rfl
theorem Quotes_enter : Tryz.prog.mayEnter = true := by kernel_rfl
theorem Quotes_pinned : (Rows.fileQuotesRow.pinned == Rows.fileQuotesRow.pinnedBy) = true := by kernel_rfl
theorem Quotes_wf : Rows.fileQuotesRow.wf (OpenSpec.ofChange Rows.fileQuotesSpec) = true := by kernel_rfl
end Go.Proofs.YtlhpnccdfgjifaaGreatDoor
