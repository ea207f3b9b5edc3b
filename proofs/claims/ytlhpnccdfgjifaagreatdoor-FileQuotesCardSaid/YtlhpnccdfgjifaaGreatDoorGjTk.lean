/-
  Closed facts of the program, each by itself.
-/
import Derived.Test.YtlhpnccdfgjifaaGreatDoorCards
import Derived.Test.YtlhpnccdfgjifaaGreatDoorTie
import Derived.Test.YtlhpnccdfgjifaaGreatDoorG1
import Derived.SevenTiedAt
namespace Go.Proofs.YtlhpnccdfgjifaaGreatDoor
open Go Go.RowKit

set_option maxRecDepth 1000000
theorem Quotes_maps : mapsRowed Tryz.prog = true := by kernel_rfl
theorem Quotes_stops : (Tryz.prog.stops == []) = true := by kernel_rfl
theorem Quotes_knobs : (Tryz.prog.stopKnobs == []) = true := by kernel_rfl
theorem Quotes_pk : (Rows.fileQuotesRow.plainKeys == Tryz.prog.plainKeys) = true := by kernel_rfl
theorem Quotes_heard : Tryz.prog.stopsHeard = true := by kernel_rfl
theorem Quotes_looks : true = Tryz.prog.looks [] := by kernel_rfl
end Go.Proofs.YtlhpnccdfgjifaaGreatDoor
